/- Functions of the seat and plain laws about them: GF69, GF84, GF64, GF27, GF68, GF31, GF51. -/
import Derived.Test.YthbpibdfookbmaaGBase
import Derived.Test.YthbpibdfookbmaaZT0
section
namespace Go.Proofs.Ythbpibdfookbmaa.G
open Go.RowKit Go.Proofs.YthbpibdfookbmaaW.PrintWords Go.Proofs.YthbpibdfookbmaaW.PrintLast Go.Proofs.YthbpibdfookbmaaW.PrintMore
attribute [local go_sem] max2_int min2_int max_two min_two max_three min_three max_four min_four
set_option linter.unusedVariables false
set_option linter.unusedSimpArgs false
def ice_waits.l0 : Nat → List Int → Int → Int → Int → Int → List Int → Int → Int → Option (Int)
 | 0, _, _, _, _, _, _, _, _ => none
 | k + 1, x0, x1, x5, x6, x7, x10, x11, x12 => if x12 < x11 then (if 0 ≤ x12 then (if x12 < (x10.length : Int) then (if (rd x10 x12) = x1 then (if x5 < 0 then (ice_waits.l0 k x0 x1 x12 x12 x7 x10 x11 (wrap64 (x12 + 1))) else (ice_waits.l0 k x0 x1 x5 x12 (mx x7 (wrap64 (x12 - x6))) x10 x11 (wrap64 (x12 + 1)))) else (ice_waits.l0 k x0 x1 x5 x6 x7 x10 x11 (wrap64 (x12 + 1)))) else (none)) else (none)) else (if x5 < 0 then (some 0) else (some (mx x7 (wrap64 ((wrap64 (x5 + (x0.length : Int))) - x6)))))
def ice_waits.f (k : Nat) (l0 : List Int) (a1 : Int) : Option (Int) := ice_waits.l0 k l0 a1 (-1) (-1) 0 l0 (l0.length : Int) 0
theorem ice_waits.mono_l : ∀ k, (∀ y0 y1 y2 y3 y4 y5 y6 y7, LeO (ice_waits.l0 k y0 y1 y2 y3 y4 y5 y6 y7) (ice_waits.l0 (k + 1) y0 y1 y2 y3 y4 y5 y6 y7))
 | 0 => fun _ _ _ _ _ _ _ _ r h => by simp [ice_waits.l0] at h
 | k + 1 => by
  have ih0 := ice_waits.mono_l k
  ·intro y0 y1 y2 y3 y4 y5 y6 y7
   unfold ice_waits.l0
   repeat' first
   | (with_reducible exact ih0 _ _ _ _ _ _ _ _)
   | (with_reducible exact LeO.refl _)
   | (with_reducible exact LeO.none _)
   | (with_reducible refine LeO.ite ?_ ?_)
   | (with_reducible refine LeO.bind ?_ (fun _ => ?_))
   | exact ih0 _ _ _ _ _ _ _ _
   | exact LeO.none _
   | refine LeO.ite ?_ ?_
   | refine LeO.bind ?_ (fun _ => ?_)
theorem ice_waits.mono : ∀ a0 a1 k, LeO (ice_waits.f k a0 a1) (ice_waits.f (k + 1) a0 a1) := by
 intro a0 a1 k
 have ih0 := ice_waits.mono_l k
 unfold ice_waits.f
 repeat' first
   | (with_reducible exact ih0 _ _ _ _ _ _ _ _)
   | (with_reducible exact LeO.refl _)
   | (with_reducible exact LeO.none _)
   | (with_reducible refine LeO.ite ?_ ?_)
   | (with_reducible refine LeO.bind ?_ (fun _ => ?_))
   | exact ih0 _ _ _ _ _ _ _ _
   | exact LeO.none _
   | refine LeO.ite ?_ ?_
   | refine LeO.bind ?_ (fun _ => ?_)
set_option maxHeartbeats 8000000 in
set_option maxRecDepth 100000 in
theorem ice_waits.calls (k : Nat) (A0 : Option Addr) (c0 : Nat) (l0 : List Int) (a1 : Int) (r : Int) (w : World) (hr0 : Kd.C (Kd.int .i64) w A0 l0.length l0) (hc0 : l0.length ≤ c0) (h : ice_waits.f k l0 a1 = some r) :
  Calls Try.prog 69 #[.slice A0 l0.length c0, .int .i64 a1] w fun e w' => e = .returned (.int .i64 r) ∧ Below w.heap.size w w' := by
 have HR0 := A_ hr0
 have HC0 := A_ hc0
 clear hr0 hc0
 have HB := A_ (Below.refl w.heap.size w)
 have H : (ice_waits.l0 k l0 a1 (-1) (-1) 0 l0 (l0.length : Int) 0) = some r := h
 clear h
 have H' := A_ H
 clear H
 go_enter Try.func69, Try.ntmps69
 go_wp2
 go_loopg [5, 6, 7, 12] k (fun kq v5 v6 v7 v12 w' => ∃ (x5_1 : Int) (x6_1 : Int) (x7_1 : Int) (x12_1 : Int), v5 = .int .i64 x5_1 ∧ v6 = .int .i64 x6_1 ∧ v7 = .int .i64 x7_1 ∧ v12 = .int .i64 x12_1 ∧ Aside0 (ice_waits.l0 kq l0 a1 x5_1 x6_1 x7_1 l0 (l0.length : Int) x12_1 = some r) ∧ Aside0 (kq ≤ k) ∧ Aside0 (Below w.heap.size w w'))
 case atStart => exact ⟨((-1)), ((-1)), (0), (0), eS, eS, eS, eS, H', ⟨Nat.le_refl _⟩, ⟨by repeat (first | (with_reducible first | exact HB.out | apply below_alloc | apply pw_below_drewN | apply below_drew1) | exact HB.out)⟩⟩
 case round =>
  clear H'
  try clear p2
  obtain ⟨x5_1, x6_1, x7_1, x12_1, rfl, rfl, rfl, rfl, HA, HK1, HB⟩ := hrel
  cases gk with
  | zero => exact absurd HA.out (by simp [ice_waits.l0])
  | succ k1 =>
   have H := HA.out
   clear HA
   simp only [ice_waits.l0] at H
   by_cases c3 : x12_1 < (l0.length : Int)
   rotate_left
   ·rw [if_neg c3] at H
    have c3b0 : decide (x12_1 < (l0.length : Int)) = false := decide_eq_false c3
    clear c3
    by_cases c9 : x5_1 < 0
    ·rw [if_pos c9] at H
     have c9b0 : decide (x5_1 < 0) = true := decide_eq_true c9
     clear c9
     obtain rfl := Option.some.inj H
     go_wp2
     go_ret
     exact ⟨eQ, by repeat (first | (with_reducible first | exact HB.out | apply below_alloc | apply pw_below_drewN | apply below_drew1) | exact HB.out)⟩
    rw [if_neg c9] at H
    have c9b0 : decide (x5_1 < 0) = false := decide_eq_false c9
    clear c9
    obtain ⟨ji10, hji10⟩ : ∃ j_ : Int, (mx x7_1 (wrap64 ((wrap64 (x5_1 + (l0.length : Int))) - x6_1))) = j_ := ⟨_, rfl⟩
    replace H : (some ji10) = some r := by first | (rw [hji10] at H; exact H) | (simp only [hji10] at H ⊢; exact H)
    have hji10_ : (if x7_1 < (wrap64 ((wrap64 (x5_1 + (l0.length : Int))) - x6_1)) then (wrap64 ((wrap64 (x5_1 + (l0.length : Int))) - x6_1)) else x7_1) = ji10 := hji10
    obtain rfl := Option.some.inj H
    go_wp2
    go_ret
    exact ⟨by first | rfl | (simp [errW_none, errW_some] <;> rfl) | (simp only [← hji10]; first | rfl | (simp [errW_none, errW_some] <;> rfl)) | (simp [*, errW_none, errW_some] <;> rfl), by repeat (first | (with_reducible first | exact HB.out | apply below_alloc | apply pw_below_drewN | apply below_drew1) | exact HB.out)⟩
   rw [if_pos c3] at H
   have c3b0 : decide (x12_1 < (l0.length : Int)) = true := decide_eq_true c3
   clear c3
   by_cases c4 : 0 ≤ x12_1
   rotate_left
   ·rw [if_neg c4] at H
    exact absurd H (by simp)
   rw [if_pos c4] at H
   have c4b0 : decide (0 ≤ x12_1) = true := decide_eq_true c4
   clear c4
   by_cases c5 : x12_1 < (l0.length : Int)
   rotate_left
   ·rw [if_neg c5] at H
    exact absurd H (by simp)
   rw [if_pos c5] at H
   have c5b0 : decide (x12_1 < (l0.length : Int)) = true := decide_eq_true c5
   clear c5
   by_cases c6 : (rd l0 x12_1) = a1
   rotate_left
   ·rw [if_neg c6] at H
    have c6b0 : ((rd l0 x12_1) == a1) = false := beq_eq_false_iff_ne.mpr c6
    have c6b1 : ((rd l0 x12_1) != a1) = true := bne_iff_ne.mpr c6
    have H' := A_ H
    clear H
    have p101 : 0 ≤ (x12_1 : Int) := oD
    have q101 : x12_1 < (l0.length : Int) := oD
    obtain ⟨ad101, e101, hx101_0⟩ := Kd.at_int HR0.out x12_1 p101 q101
    cases e101
    replace hx101_0 := (HB.out.cell (World.block_lt_of_cell? w _ hx101_0)).trans hx101_0
    replace p101 := eq_true p101
    replace q101 := eq_true q101
    go_wp2
    go_roundg k1
    case measure => have := HK1.out; omega
    case rel => exact ⟨(x5_1), (x6_1), (x7_1), (wrap64 (x12_1 + 1)), eS, eS, eS, eS, H', ⟨by have := HK1.out; omega⟩, ⟨by repeat (first | (with_reducible first | exact HB.out | apply below_alloc | apply pw_below_drewN | apply below_drew1) | exact HB.out)⟩⟩
   rw [if_pos c6] at H
   have c6b0 : ((rd l0 x12_1) == a1) = true := beq_iff_eq.mpr c6
   have c6b1 : ((rd l0 x12_1) != a1) = false := bne_eq_false_iff_eq.mpr c6
   clear c6
   by_cases c7 : x5_1 < 0
   ·rw [if_pos c7] at H
    have c7b0 : decide (x5_1 < 0) = true := decide_eq_true c7
    clear c7
    have H' := A_ H
    clear H
    have p101 : 0 ≤ (x12_1 : Int) := oD
    have q101 : x12_1 < (l0.length : Int) := oD
    obtain ⟨ad101, e101, hx101_0⟩ := Kd.at_int HR0.out x12_1 p101 q101
    cases e101
    replace hx101_0 := (HB.out.cell (World.block_lt_of_cell? w _ hx101_0)).trans hx101_0
    replace p101 := eq_true p101
    replace q101 := eq_true q101
    go_wp2
    go_roundg k1
    case measure => have := HK1.out; omega
    case rel => exact ⟨(x12_1), (x12_1), (x7_1), (wrap64 (x12_1 + 1)), eS, eS, eS, eS, H', ⟨by have := HK1.out; omega⟩, ⟨by repeat (first | (with_reducible first | exact HB.out | apply below_alloc | apply pw_below_drewN | apply below_drew1) | exact HB.out)⟩⟩
   rw [if_neg c7] at H
   have c7b0 : decide (x5_1 < 0) = false := decide_eq_false c7
   clear c7
   obtain ⟨ji8, hji8⟩ : ∃ j_ : Int, (mx x7_1 (wrap64 (x12_1 - x6_1))) = j_ := ⟨_, rfl⟩
   replace H : (ice_waits.l0 k1 l0 a1 x5_1 x12_1 ji8 l0 (l0.length : Int) (wrap64 (x12_1 + 1))) = some r := by first | (rw [hji8] at H; exact H) | (simp only [hji8] at H ⊢; exact H)
   have hji8_ : (if x7_1 < (wrap64 (x12_1 - x6_1)) then (wrap64 (x12_1 - x6_1)) else x7_1) = ji8 := hji8
   have H' := A_ H
   clear H
   have p101 : 0 ≤ (x12_1 : Int) := oD
   have q101 : x12_1 < (l0.length : Int) := oD
   obtain ⟨ad101, e101, hx101_0⟩ := Kd.at_int HR0.out x12_1 p101 q101
   cases e101
   replace hx101_0 := (HB.out.cell (World.block_lt_of_cell? w _ hx101_0)).trans hx101_0
   replace p101 := eq_true p101
   replace q101 := eq_true q101
   go_wp2
   go_roundg k1
   case measure => have := HK1.out; omega
   case rel => exact ⟨(x5_1), (x12_1), (ji8), (wrap64 (x12_1 + 1)), eS, eS, (by first | rfl | (simp; done) | (simp only [← hji8] <;> (first | rfl | simp)) | (simp [*]; done)), eS, H', ⟨by have := HK1.out; omega⟩, ⟨by repeat (first | (with_reducible first | exact HB.out | apply below_alloc | apply pw_below_drewN | apply below_drew1) | exact HB.out)⟩⟩
def ice_isRota_1.f (a0 : Int) (l1_0 : List Int) : Option (Bool) := (ice_within.f (-1) a0 (wrap64 ((l1_0.length : Int) - 1))).bind fun t101 => (some (!t101))
set_option maxHeartbeats 8000000 in
set_option maxRecDepth 100000 in
theorem ice_isRota_1.calls (a0 : Int) (b1 : Nat) (A1_0 : Option Addr) (c1_0 : Nat) (l1_0 : List Int) (r : Bool) (w : World) (hbk1 : w.heap[b1]? = some (.cells #[.slice A1_0 l1_0.length c1_0] 22 (0, 0))) (hr1_0 : Kd.C (Kd.int .i64) w A1_0 l1_0.length l1_0) (hc1_0 : l1_0.length ≤ c1_0) (h : ice_isRota_1.f a0 l1_0 = some r) :
  Calls Try.prog 84 #[.int .i64 a0, .pointer (some ⟨b1, 0, none⟩)] w fun e w' => e = .returned (.bool r) ∧ Drawn0 w w' := by
 have HR1_0 := A_ hr1_0
 have HC1_0 := A_ hc1_0
 clear hr1_0 hc1_0
 have BK1 := A_ hbk1
 clear hbk1
 have H : ((ice_within.f (-1) a0 (wrap64 ((l1_0.length : Int) - 1))).bind fun t101 => (some (!t101))) = some r := h
 clear h
 replace H := Option.bind_eq_some_iff.mp H
 obtain ⟨t101, A30, H⟩ := H
 replace H : (some (!t101)) = some r := H
 have A3 := A_ A30
 clear A30
 obtain rfl := Option.some.inj H
 have hcz4_0 : w.cell? ⟨b1, 0, none⟩ = some (.slice A1_0 l1_0.length c1_0) := (blk_cell BK1.out 0).trans rfl
 have hfz4_0 := blk_frozen BK1.out 0
 go_enter Try.func84, Try.ntmps84
 go_wp2_with (first | ((with_reducible refine gate_callee (f := 50) rfl ?_); refine goesW_ (some 8) Try.func50 #[.int .i64 (-1), .int .i64 a0, .int .i64 (wrap64 ((l1_0.length : Int) - 1))] ?_; (with_reducible refine (ice_within.calls (-1) a0 (wrap64 ((l1_0.length : Int) - 1)) t101 _ A3.out).mono ?_); rintro e w' ⟨rfl, ⟨nd, rfl⟩⟩; refine ⟨_, rfl, ?_⟩))
 go_ret
 exact ⟨by first | rfl | (simp; done) | (simp [*]; done), by repeat (first | exact Drawn0.refl _ | apply Drawn0.step)⟩
mutual
def ice_isRota.j0 : Nat → List Int → Bool → List Int → Option (Bool)
 | 0, _, _, _ => none
 | k + 1, x1, x15, x102000 => if x15 = true then (some false) else (ice_isRota.l0 k x1 x102000 (x102000.length : Int) 0)
def ice_isRota.l0 : Nat → List Int → List Int → Int → Int → Option (Bool)
 | 0, _, _, _, _ => none
 | k + 1, x1, x16, x17, x18 => if x18 < x17 then (if 0 ≤ x18 then (if x18 < (x16.length : Int) then ((ice_waits.f k x1 x18).bind fun t105 => ((ice_within.f 1 t105 (rd x16 x18)).bind fun t106 => (if t106 = true then (ice_isRota.l0 k x1 x16 x17 (wrap64 (x18 + 1))) else (some false)))) else (none)) else (none)) else (some true)
end
def ice_isRota.f (k : Nat) (l0 : List Int) (l1 : List Int) : Option (Bool) := (ice_within.f 1 (l1.length : Int) 100).bind fun t102 => (if t102 = true then ((slices_ContainsFunc_int_int.f k l1 (fun z0_ => ice_isRota_1.f z0_ l0)).bind fun t103 => (ice_isRota.j0 k l1 t103 l0)) else (ice_isRota.j0 k l1 true l0))
theorem ice_isRota.mono_l : ∀ k, (∀ y0 y1 y2, LeO (ice_isRota.j0 k y0 y1 y2) (ice_isRota.j0 (k + 1) y0 y1 y2)) ∧ (∀ y0 y1 y2 y3, LeO (ice_isRota.l0 k y0 y1 y2 y3) (ice_isRota.l0 (k + 1) y0 y1 y2 y3))
 | 0 => ⟨fun _ _ _ r h => by simp [ice_isRota.j0] at h, fun _ _ _ _ r h => by simp [ice_isRota.l0] at h⟩
 | k + 1 => by
  obtain ⟨ih0, ih1⟩ := ice_isRota.mono_l k
  refine ⟨?_, ?_⟩
  ·intro y0 y1 y2
   unfold ice_isRota.j0
   repeat' first
   | (with_reducible exact ih0 _ _ _)
   | (with_reducible exact ih1 _ _ _ _)
   | (with_reducible exact ice_waits.mono _ _ _)
   | (with_reducible exact slices_ContainsFunc_int_int.mono _ _ _)
   | (with_reducible exact LeO.refl _)
   | (with_reducible exact LeO.none _)
   | (with_reducible refine LeO.ite ?_ ?_)
   | (with_reducible refine LeO.bind ?_ (fun _ => ?_))
   | exact ih0 _ _ _
   | exact ih1 _ _ _ _
   | exact ice_waits.mono _ _ _
   | exact slices_ContainsFunc_int_int.mono _ _ _
   | exact LeO.none _
   | refine LeO.ite ?_ ?_
   | refine LeO.bind ?_ (fun _ => ?_)
  ·intro y0 y1 y2 y3
   unfold ice_isRota.l0
   repeat' first
   | (with_reducible exact ih0 _ _ _)
   | (with_reducible exact ih1 _ _ _ _)
   | (with_reducible exact ice_waits.mono _ _ _)
   | (with_reducible exact slices_ContainsFunc_int_int.mono _ _ _)
   | (with_reducible exact LeO.refl _)
   | (with_reducible exact LeO.none _)
   | (with_reducible refine LeO.ite ?_ ?_)
   | (with_reducible refine LeO.bind ?_ (fun _ => ?_))
   | exact ih0 _ _ _
   | exact ih1 _ _ _ _
   | exact ice_waits.mono _ _ _
   | exact slices_ContainsFunc_int_int.mono _ _ _
   | exact LeO.none _
   | refine LeO.ite ?_ ?_
   | refine LeO.bind ?_ (fun _ => ?_)
theorem ice_isRota.mono : ∀ a0 a1 k, LeO (ice_isRota.f k a0 a1) (ice_isRota.f (k + 1) a0 a1) := by
 intro a0 a1 k
 obtain ⟨ih0, ih1⟩ := ice_isRota.mono_l k
 unfold ice_isRota.f
 repeat' first
   | (with_reducible exact ih0 _ _ _)
   | (with_reducible exact ih1 _ _ _ _)
   | (with_reducible exact ice_waits.mono _ _ _)
   | (with_reducible exact slices_ContainsFunc_int_int.mono _ _ _)
   | (with_reducible exact LeO.refl _)
   | (with_reducible exact LeO.none _)
   | (with_reducible refine LeO.ite ?_ ?_)
   | (with_reducible refine LeO.bind ?_ (fun _ => ?_))
   | exact ih0 _ _ _
   | exact ih1 _ _ _ _
   | exact ice_waits.mono _ _ _
   | exact slices_ContainsFunc_int_int.mono _ _ _
   | exact LeO.none _
   | refine LeO.ite ?_ ?_
   | refine LeO.bind ?_ (fun _ => ?_)
set_option maxHeartbeats 8000000 in
set_option maxRecDepth 100000 in
theorem ice_isRota.calls (k : Nat) (A0 : Option Addr) (c0 : Nat) (l0 : List Int) (A1 : Option Addr) (c1 : Nat) (l1 : List Int) (r : Bool) (w : World) (hr0 : Kd.C (Kd.int .i64) w A0 l0.length l0) (hc0 : l0.length ≤ c0) (hr1 : Kd.C (Kd.int .i64) w A1 l1.length l1) (hc1 : l1.length ≤ c1) (h : ice_isRota.f k l0 l1 = some r) :
  Calls Try.prog 64 #[.slice A0 l0.length c0, .slice A1 l1.length c1] w fun e w' => e = .returned (.bool r) ∧ Below w.heap.size w w' := by
 have HR0 := A_ hr0; have HC0 := A_ hc0; clear hr0 hc0; have HR1 := A_ hr1; have HC1 := A_ hc1; clear hr1 hc1; have HB := A_ (Below.refl w.heap.size w)
 have H : ((ice_within.f 1 (l1.length : Int) 100).bind fun t102 => (if t102 = true then ((slices_ContainsFunc_int_int.f k l1 (fun z0_ => ice_isRota_1.f z0_ l0)).bind fun t103 => (ice_isRota.j0 k l1 t103 l0)) else (ice_isRota.j0 k l1 true l0))) = some r := h
 clear h; have HC3 := A_ H; clear H
 go_enter Try.func64, Try.ntmps64
 go_upto_region 1 with (first | ((with_reducible refine gate_dst (N := 2) rfl ?_); refine bxW 2 (cs := #[.slice A0 l0.length c0]) (t := 22) ?_; intro gb101 hg w4 hbox hb; have n0_ := A_ (below_step (bW0 HB.out) hb); have n1_ := A_ (hbox); have n2_ := A_ ((szG hg (bW0 HB.out))); have n3_ := A_ ((szG hg (bW0 HB.out))); clear HB; have HB := n0_; have BK101 := n1_; have GW101 := n2_; have GE101 := n3_; clear n0_ n1_ n2_ n3_; clear hb hbox hg))
 (try simp only [Act.put, List.setIfInBounds_toArray, List.set_cons_zero, List.set_cons_succ])
 go_cut [15] (fun v15 wc => ∃ (kq : Nat) (x15_2 : Bool), v15 = .bool x15_2 ∧ Aside0 (ice_isRota.j0 kq l1 x15_2 l0 = some r) ∧ Aside0 (kq ≤ k) ∧ Aside0 (wc.heap[gb101]? = some (.cells #[(.slice A0 l0.length c0)] 22 (0, 0))) ∧ Aside0 (Below w.heap.size w wc))
 case first =>
  have H := HC3.out; clear HC3; replace H := Option.bind_eq_some_iff.mp H; obtain ⟨t102, A50, H⟩ := H; (try dsimp only at H); have A5 := A_ A50; clear A50; by_cases c6 : t102 = true; rotate_left
  ·replace c6 := Bool.eq_false_iff.mpr c6
   subst c6; rw [if_neg (show ¬ (false = true) by decide)] at H; have H' := A_ H; clear H
   go_wp2_with (first | ((with_reducible refine gate_callee (f := 50) rfl ?_); refine goesW_ (some 9) Try.func50 #[.int .i64 1, .int .i64 (l1.length : Int), .int .i64 100] ?_; (with_reducible refine (ice_within.calls 1 (l1.length : Int) 100 false _ A5.out).mono ?_); rintro e w' ⟨rfl, ⟨nd, rfl⟩⟩; refine ⟨_, rfl, ?_⟩))
   go_meet
   case rel => exact ⟨_, (true), eS, H', ⟨by first | omega | exact Nat.le_refl _⟩, ⟨bkU BK101⟩, ⟨by repeat (first | (with_reducible first | exact HB.out | apply below_alloc | apply pw_below_drewN | apply below_drew1 | refine below_set ?_ GE101.out) | exact HB.out)⟩⟩
  subst c6; rw [if_pos rfl] at H; replace H := Option.bind_eq_some_iff.mp H; obtain ⟨t103, A70, H⟩ := H; (try dsimp only at H); have A7 := A_ A70; clear A70; have H' := A_ H; clear H
  go_wp2_with (first | ((with_reducible refine gate_callee (f := 50) rfl ?_); refine goesW_ (some 9) Try.func50 #[.int .i64 1, .int .i64 (l1.length : Int), .int .i64 100] ?_; (with_reducible refine (ice_within.calls 1 (l1.length : Int) 100 true _ A5.out).mono ?_); rintro e w' ⟨rfl, ⟨nd, rfl⟩⟩; refine ⟨_, rfl, ?_⟩) | (go_at_call 66; (with_reducible refine (slices_ContainsFunc_int_int.calls k _ _ l1 (enters_f Try.func84 (by kernel_rfl) rfl) (fun z0_ => ice_isRota_1.f z0_ l0) t103 _ ?side1 ?side2 ?side3 A7.out).mono ?_); (case side1 => repeat (first | exact (Kd.C_below HR1.out (bW1 HB.out GE101.out)) | (with_reducible refine Kd.C_alloc ?_ _) | (with_reducible refine Kd.C_drewN ?_ _) | (with_reducible refine Kd.C_drew ?_))); (case side2 => exact HC1.out); (case side3 => intro z0_ q0_ W_ hW_ hq_; have hc_ := ice_isRota_1.calls z0_ gb101 _ _ l0 q0_ W_ (blk_below (g := gb101) (o := .cells #[.slice A0 l0.length c0] 22 (0, 0)) (bkU BK101) hW_) (Kd.C_below (by repeat (first | exact (Kd.C_below HR0.out (bW1 HB.out GE101.out)) | (with_reducible refine Kd.C_alloc ?_ _) | (with_reducible refine Kd.C_drewN ?_ _) | (with_reducible refine Kd.C_drew ?_))) hW_) (by exact HC0.out) hq_; exact hc_.mono (fun e_ w_ h_ => ⟨h_.1, (by obtain ⟨_, nd_, rfl⟩ := h_; exact pw_below_drewN (Below.refl _ _) _)⟩)); rintro e w8 ⟨rfl, hb⟩; have n0_ := A_ (bkB BK101 hb); have n1_ := A_ (below_step (bW1 HB.out GE101.out) hb); clear BK101; clear HB; have BK101 := n0_; have HB := n1_; clear n0_ n1_; (try clear hb)))
  go_meet
  case rel => exact ⟨_, (t103), eS, H', ⟨by first | omega | exact Nat.le_refl _⟩, ⟨bkU BK101⟩, ⟨by repeat (first | (with_reducible first | exact HB.out | apply below_alloc | apply pw_below_drewN | apply below_drew1 | refine below_set ?_ GE101.out) | exact HB.out)⟩⟩
 case rest =>
  clear HC3
  try clear c1; try clear p2; try clear c5; try clear c6; try clear c8
  obtain ⟨kq, x15_2, rfl, HA, HJ2, BK101, HB⟩ := hcut
  cases kq with
  | zero => exact absurd HA.out (by simp [ice_isRota.j0])
  | succ kj2 =>
   have H := HA.out; clear HA; simp only [ice_isRota.j0] at H; by_cases c9 : x15_2 = true
   ·subst c9
    rw [if_pos rfl] at H; obtain rfl := Option.some.inj H
    go_wp2
    go_ret
    exact ⟨eQ, by repeat (first | (with_reducible first | exact HB.out | apply below_alloc | apply pw_below_drewN | apply below_drew1 | refine below_set ?_ GE101.out) | exact HB.out)⟩
   replace c9 := Bool.eq_false_iff.mpr c9; subst c9; rw [if_neg (show ¬ (false = true) by decide)] at H; have H' := A_ H; clear H; have hcz10_0 : wc.cell? ⟨gb101, 0, none⟩ = some (.slice A0 l0.length c0) := (blk_cell BK101.out 0).trans rfl; have hfz10_0 := blk_frozen BK101.out 0
   go_wp2
   go_loopg [18] kj2 (fun kq v18 w' => ∃ (x18_2 : Int), v18 = .int .i64 x18_2 ∧ Aside0 (ice_isRota.l0 kq l1 l0 (l0.length : Int) x18_2 = some r) ∧ Aside0 (kq ≤ kj2) ∧ Aside0 (w'.heap[gb101]? = some (.cells #[(.slice A0 l0.length c0)] 22 (0, 0))) ∧ Aside0 (Below w.heap.size w w'))
   case atStart => exact ⟨(0), eS, H', ⟨Nat.le_refl _⟩, ⟨bkU BK101⟩, ⟨by repeat (first | (with_reducible first | exact HB.out | apply below_alloc | apply pw_below_drewN | apply below_drew1 | refine below_set ?_ GE101.out) | exact HB.out)⟩⟩
   case round =>
    clear H'
    try clear c1; try clear p2; try clear c5; try clear c6; try clear c8; try clear c9; try clear hcz10_0; try clear hfz10_0; try clear p2
    obtain ⟨x18_2, rfl, HA, HK2, BK101, HB⟩ := hrel
    cases gk with
    | zero => exact absurd HA.out (by simp [ice_isRota.l0])
    | succ k2 =>
     have H := HA.out; clear HA; simp only [ice_isRota.l0] at H; by_cases c11 : x18_2 < (l0.length : Int); rotate_left
     ·rw [if_neg c11] at H
      have c11b0 : decide (x18_2 < (l0.length : Int)) = false := decide_eq_false c11; clear c11; obtain rfl := Option.some.inj H
      go_wp2
      go_ret
      exact ⟨eQ, by repeat (first | (with_reducible first | exact HB.out | apply below_alloc | apply pw_below_drewN | apply below_drew1 | refine below_set ?_ GE101.out) | exact HB.out)⟩
     rw [if_pos c11] at H; have c11b0 : decide (x18_2 < (l0.length : Int)) = true := decide_eq_true c11; clear c11; by_cases c12 : 0 ≤ x18_2; rotate_left
     ·rw [if_neg c12] at H
      exact absurd H (by simp)
     rw [if_pos c12] at H; have c12b0 : decide (0 ≤ x18_2) = true := decide_eq_true c12; clear c12; by_cases c13 : x18_2 < (l0.length : Int); rotate_left
     ·rw [if_neg c13] at H
      exact absurd H (by simp)
     rw [if_pos c13] at H; have c13b0 : decide (x18_2 < (l0.length : Int)) = true := decide_eq_true c13; clear c13; replace H := Option.bind_eq_some_iff.mp H; obtain ⟨t105, A140, H⟩ := H; (try dsimp only at H); have A14 := A_ A140; clear A140; replace H := Option.bind_eq_some_iff.mp H; obtain ⟨t106, A150, H⟩ := H; (try dsimp only at H); have A15 := A_ A150; clear A150; by_cases c16 : t106 = true; rotate_left
     ·replace c16 := Bool.eq_false_iff.mpr c16
      subst c16; rw [if_neg (show ¬ (false = true) by decide)] at H; obtain rfl := Option.some.inj H; have p104 : 0 ≤ (x18_2 : Int) := oD; have q104 : x18_2 < (l0.length : Int) := oD; obtain ⟨ad104, e104, hx104_0⟩ := Kd.at_int HR0.out x18_2 p104 q104
      cases e104
      replace hx104_0 := (HB.out.cell (World.block_lt_of_cell? w _ hx104_0)).trans hx104_0; replace p104 := eq_true p104; replace q104 := eq_true q104
      go_wp2_with (first | ((with_reducible refine gate_callee (f := 69) rfl ?_); refine goesW_ (some 25) Try.func69 #[.slice A1 l1.length c1, .int .i64 x18_2] ?_; (with_reducible refine (ice_waits.calls k2 _ _ l1 x18_2 t105 _ ?side1 ?side2 A14.out).mono ?_); (case side1 => exact cU (Kd.C_below HR1.out HB.out)); (case side2 => exact HC1.out); rintro e w18 ⟨rfl, hb⟩; refine ⟨_, rfl, ?_⟩; have n0_ := A_ (bkB BK101 hb); have n1_ := A_ (below_step (bW1 HB.out GE101.out) hb); clear BK101; clear HB; have BK101 := n0_; have HB := n1_; clear n0_ n1_; (try clear hb)) | ((with_reducible refine gate_callee (f := 50) rfl ?_); refine goesW_ (some 27) Try.func50 #[.int .i64 1, .int .i64 t105, .int .i64 (rd l0 x18_2)] ?_; (with_reducible refine (ice_within.calls 1 t105 (rd l0 x18_2) false _ A15.out).mono ?_); rintro e w' ⟨rfl, ⟨nd, rfl⟩⟩; refine ⟨_, rfl, ?_⟩))
      go_ret
      exact ⟨eQ, by repeat (first | (with_reducible first | exact HB.out | apply below_alloc | apply pw_below_drewN | apply below_drew1 | refine below_set ?_ GE101.out) | exact HB.out)⟩
     subst c16; rw [if_pos rfl] at H; have H' := A_ H; clear H; have p104 : 0 ≤ (x18_2 : Int) := oD; have q104 : x18_2 < (l0.length : Int) := oD; obtain ⟨ad104, e104, hx104_0⟩ := Kd.at_int HR0.out x18_2 p104 q104
     cases e104
     replace hx104_0 := (HB.out.cell (World.block_lt_of_cell? w _ hx104_0)).trans hx104_0; replace p104 := eq_true p104; replace q104 := eq_true q104
     go_wp2_with (first | ((with_reducible refine gate_callee (f := 69) rfl ?_); refine goesW_ (some 25) Try.func69 #[.slice A1 l1.length c1, .int .i64 x18_2] ?_; (with_reducible refine (ice_waits.calls k2 _ _ l1 x18_2 t105 _ ?side1 ?side2 A14.out).mono ?_); (case side1 => exact cU (Kd.C_below HR1.out HB.out)); (case side2 => exact HC1.out); rintro e w17 ⟨rfl, hb⟩; refine ⟨_, rfl, ?_⟩; have n0_ := A_ (bkB BK101 hb); have n1_ := A_ (below_step (bW1 HB.out GE101.out) hb); clear BK101; clear HB; have BK101 := n0_; have HB := n1_; clear n0_ n1_; (try clear hb)) | ((with_reducible refine gate_callee (f := 50) rfl ?_); refine goesW_ (some 27) Try.func50 #[.int .i64 1, .int .i64 t105, .int .i64 (rd l0 x18_2)] ?_; (with_reducible refine (ice_within.calls 1 t105 (rd l0 x18_2) true _ A15.out).mono ?_); rintro e w' ⟨rfl, ⟨nd, rfl⟩⟩; refine ⟨_, rfl, ?_⟩))
     go_roundg k2
     case measure => have := HJ2.out; have := HK2.out; omega
     case rel => exact ⟨(wrap64 (x18_2 + 1)), eS, H', ⟨by have := HJ2.out; have := HK2.out; omega⟩, ⟨bkU BK101⟩, ⟨by repeat (first | (with_reducible first | exact HB.out | apply below_alloc | apply pw_below_drewN | apply below_drew1 | refine below_set ?_ GE101.out) | exact HB.out)⟩⟩
def ice_IsRota.f (k : Nat) (l0 : List Int) (l1 : List Int) : Option (Bool × Int) := (ice_Valid.f k l0).bind fun t101 => (if t101 = true then ((ice_isRota.f k l0 l1).bind fun t102 => (some (t102, 0))) else (some (false, 80)))
theorem ice_IsRota.mono : ∀ a0 a1 k, LeO (ice_IsRota.f k a0 a1) (ice_IsRota.f (k + 1) a0 a1) := by
 intro a0 a1 k
 unfold ice_IsRota.f
 repeat' first
   | (with_reducible exact ice_Valid.mono _ _)
   | (with_reducible exact ice_isRota.mono _ _ _)
   | (with_reducible exact LeO.refl _)
   | (with_reducible exact LeO.none _)
   | (with_reducible refine LeO.ite ?_ ?_)
   | (with_reducible refine LeO.bind ?_ (fun _ => ?_))
   | exact ice_Valid.mono _ _
   | exact ice_isRota.mono _ _ _
   | exact LeO.none _
   | refine LeO.ite ?_ ?_
   | refine LeO.bind ?_ (fun _ => ?_)
set_option maxHeartbeats 8000000 in
set_option maxRecDepth 100000 in
theorem ice_IsRota.calls (k : Nat) (A0 : Option Addr) (c0 : Nat) (l0 : List Int) (A1 : Option Addr) (c1 : Nat) (l1 : List Int) (r1 : Bool) (r2 : Int) (w : World) (hr0 : Kd.C (Kd.int .i64) w A0 l0.length l0) (hc0 : l0.length ≤ c0) (hr1 : Kd.C (Kd.int .i64) w A1 l1.length l1) (hc1 : l1.length ≤ c1) (h : ice_IsRota.f k l0 l1 = some (r1, r2)) :
  Calls Try.prog 27 #[.slice A0 l0.length c0, .slice A1 l1.length c1] w fun e w' => e = .returned (.tuple #[.bool r1, .int .i64 r2]) ∧ Below w.heap.size w w' := by
 have HR0 := A_ hr0
 have HC0 := A_ hc0
 clear hr0 hc0
 have HR1 := A_ hr1
 have HC1 := A_ hc1
 clear hr1 hc1
 have HB := A_ (Below.refl w.heap.size w)
 have H : ((ice_Valid.f k l0).bind fun t101 => (if t101 = true then ((ice_isRota.f k l0 l1).bind fun t102 => (some (t102, 0))) else (some (false, 80)))) = some (r1, r2) := h
 clear h
 replace H := Option.bind_eq_some_iff.mp H
 obtain ⟨t101, A30, H⟩ := H
 replace H : (if t101 = true then ((ice_isRota.f k l0 l1).bind fun t102 => (some (t102, 0))) else (some (false, 80))) = some (r1, r2) := H
 have A3 := A_ A30
 clear A30
 by_cases c4 : t101 = true
 rotate_left
 ·replace c4 := Bool.eq_false_iff.mpr c4
  subst c4
  have H1 : (some (false, 80)) = some (r1, r2) := by rw [if_neg (show ¬ (false = true) by decide)] at H; exact H
  clear H
  have H := H1
  clear H1
  simp only [Option.some.injEq, Prod.mk.injEq] at H
  obtain ⟨rfl, rfl⟩ := H
  go_enter Try.func27, Try.ntmps27
  go_wp2_with (first | ((with_reducible refine gate_callee (f := 29) rfl ?_); refine goesW_ (some 7) Try.func29 #[.slice A0 l0.length c0] ?_; (with_reducible refine (ice_Valid.calls k _ _ l0 false _ ?side1 ?side2 A3.out).mono ?_); (case side1 => exact cU HR0.out); (case side2 => exact HC0.out); rintro e w8 ⟨rfl, hb⟩; refine ⟨_, rfl, ?_⟩; have n0_ := A_ (below_step (bW0 HB.out) hb); clear HB; have HB := n0_; clear n0_; (try clear hb)))
  go_ret2
  exact ⟨eQ, by repeat (first | (with_reducible first | exact HB.out | apply below_alloc | apply pw_below_drewN | apply below_drew1) | exact HB.out)⟩
 subst c4
 have H1 : ((ice_isRota.f k l0 l1).bind fun t102 => (some (t102, 0))) = some (r1, r2) := by rw [if_pos rfl] at H; exact H
 clear H
 have H := H1
 clear H1
 replace H := Option.bind_eq_some_iff.mp H
 obtain ⟨t102, A50, H⟩ := H
 replace H : (some (t102, 0)) = some (r1, r2) := H
 have A5 := A_ A50
 clear A50
 simp only [Option.some.injEq, Prod.mk.injEq] at H
 obtain ⟨rfl, rfl⟩ := H
 go_enter Try.func27, Try.ntmps27
 go_wp2_with (first | ((with_reducible refine gate_callee (f := 29) rfl ?_); refine goesW_ (some 7) Try.func29 #[.slice A0 l0.length c0] ?_; (with_reducible refine (ice_Valid.calls k _ _ l0 true _ ?side1 ?side2 A3.out).mono ?_); (case side1 => exact cU HR0.out); (case side2 => exact HC0.out); rintro e w6 ⟨rfl, hb⟩; refine ⟨_, rfl, ?_⟩; have n0_ := A_ (below_step (bW0 HB.out) hb); clear HB; have HB := n0_; clear n0_; (try clear hb)) | ((with_reducible refine gate_callee (f := 64) rfl ?_); refine goesW_ (some 11) Try.func64 #[.slice A0 l0.length c0, .slice A1 l1.length c1] ?_; (with_reducible refine (ice_isRota.calls k _ _ l0 _ _ l1 t102 _ ?side1 ?side2 ?side3 ?side4 A5.out).mono ?_); (case side1 => exact cU (Kd.C_below HR0.out HB.out)); (case side2 => exact HC0.out); (case side3 => exact cU (Kd.C_below HR1.out HB.out)); (case side4 => exact HC1.out); rintro e w7 ⟨rfl, hb⟩; refine ⟨_, rfl, ?_⟩; have n0_ := A_ (below_step (bW0 HB.out) hb); clear HB; have HB := n0_; clear n0_; (try clear hb)))
 go_ret2
 exact ⟨eQ, by repeat (first | (with_reducible first | exact HB.out | apply below_alloc | apply pw_below_drewN | apply below_drew1) | exact HB.out)⟩
def ice_asked.f (k : Nat) (l0 : List Int) (l1 : List Int) : Option (Int) := (ice_Valid.f k l0).bind fun t101 => (if t101 = true then ((ice_isRota.f k l0 l1).bind fun t102 => (if t102 = true then (some 0) else (some 2))) else (some 80))
theorem ice_asked.mono : ∀ a0 a1 k, LeO (ice_asked.f k a0 a1) (ice_asked.f (k + 1) a0 a1) := by
 intro a0 a1 k
 unfold ice_asked.f
 repeat' first
   | (with_reducible exact ice_Valid.mono _ _)
   | (with_reducible exact ice_isRota.mono _ _ _)
   | (with_reducible exact LeO.refl _)
   | (with_reducible exact LeO.none _)
   | (with_reducible refine LeO.ite ?_ ?_)
   | (with_reducible refine LeO.bind ?_ (fun _ => ?_))
   | exact ice_Valid.mono _ _
   | exact ice_isRota.mono _ _ _
   | exact LeO.none _
   | refine LeO.ite ?_ ?_
   | refine LeO.bind ?_ (fun _ => ?_)
set_option maxHeartbeats 8000000 in
set_option maxRecDepth 100000 in
theorem ice_asked.calls (k : Nat) (A0 : Option Addr) (c0 : Nat) (l0 : List Int) (A1 : Option Addr) (c1 : Nat) (l1 : List Int) (r : Int) (w : World) (hr0 : Kd.C (Kd.int .i64) w A0 l0.length l0) (hc0 : l0.length ≤ c0) (hr1 : Kd.C (Kd.int .i64) w A1 l1.length l1) (hc1 : l1.length ≤ c1) (h : ice_asked.f k l0 l1 = some r) :
  Calls Try.prog 68 #[.slice A0 l0.length c0, .slice A1 l1.length c1] w fun e w' => e = .returned (.int .i64 r) ∧ Below w.heap.size w w' := by
 have HR0 := A_ hr0
 have HC0 := A_ hc0
 clear hr0 hc0
 have HR1 := A_ hr1
 have HC1 := A_ hc1
 clear hr1 hc1
 have HB := A_ (Below.refl w.heap.size w)
 have H : ((ice_Valid.f k l0).bind fun t101 => (if t101 = true then ((ice_isRota.f k l0 l1).bind fun t102 => (if t102 = true then (some 0) else (some 2))) else (some 80))) = some r := h
 clear h
 replace H := Option.bind_eq_some_iff.mp H
 obtain ⟨t101, A30, H⟩ := H
 replace H : (if t101 = true then ((ice_isRota.f k l0 l1).bind fun t102 => (if t102 = true then (some 0) else (some 2))) else (some 80)) = some r := H
 have A3 := A_ A30
 clear A30
 by_cases c4 : t101 = true
 rotate_left
 ·replace c4 := Bool.eq_false_iff.mpr c4
  subst c4
  have H1 : (some 80) = some r := by rw [if_neg (show ¬ (false = true) by decide)] at H; exact H
  clear H
  have H := H1
  clear H1
  obtain rfl := Option.some.inj H
  go_enter Try.func68, Try.ntmps68
  go_wp2_with (first | ((with_reducible refine gate_callee (f := 29) rfl ?_); refine goesW_ (some 7) Try.func29 #[.slice A0 l0.length c0] ?_; (with_reducible refine (ice_Valid.calls k _ _ l0 false _ ?side1 ?side2 A3.out).mono ?_); (case side1 => exact cU HR0.out); (case side2 => exact HC0.out); rintro e w11 ⟨rfl, hb⟩; refine ⟨_, rfl, ?_⟩; have n0_ := A_ (below_step (bW0 HB.out) hb); clear HB; have HB := n0_; clear n0_; (try clear hb)))
  go_ret
  exact ⟨eQ, by repeat (first | (with_reducible first | exact HB.out | apply below_alloc | apply pw_below_drewN | apply below_drew1) | exact HB.out)⟩
 subst c4
 have H1 : ((ice_isRota.f k l0 l1).bind fun t102 => (if t102 = true then (some 0) else (some 2))) = some r := by rw [if_pos rfl] at H; exact H
 clear H
 have H := H1
 clear H1
 replace H := Option.bind_eq_some_iff.mp H
 obtain ⟨t102, A50, H⟩ := H
 replace H : (if t102 = true then (some 0) else (some 2)) = some r := H
 have A5 := A_ A50
 clear A50
 by_cases c6 : t102 = true
 ·subst c6
  have H1 : (some 0) = some r := by rw [if_pos rfl] at H; exact H
  clear H
  have H := H1
  clear H1
  obtain rfl := Option.some.inj H
  go_enter Try.func68, Try.ntmps68
  go_wp2_with (first | ((with_reducible refine gate_callee (f := 29) rfl ?_); refine goesW_ (some 7) Try.func29 #[.slice A0 l0.length c0] ?_; (with_reducible refine (ice_Valid.calls k _ _ l0 true _ ?side1 ?side2 A3.out).mono ?_); (case side1 => exact cU HR0.out); (case side2 => exact HC0.out); rintro e w7 ⟨rfl, hb⟩; refine ⟨_, rfl, ?_⟩; have n0_ := A_ (below_step (bW0 HB.out) hb); clear HB; have HB := n0_; clear n0_; (try clear hb)) | ((with_reducible refine gate_callee (f := 64) rfl ?_); refine goesW_ (some 12) Try.func64 #[.slice A0 l0.length c0, .slice A1 l1.length c1] ?_; (with_reducible refine (ice_isRota.calls k _ _ l0 _ _ l1 true _ ?side1 ?side2 ?side3 ?side4 A5.out).mono ?_); (case side1 => exact cU (Kd.C_below HR0.out HB.out)); (case side2 => exact HC0.out); (case side3 => exact cU (Kd.C_below HR1.out HB.out)); (case side4 => exact HC1.out); rintro e w8 ⟨rfl, hb⟩; refine ⟨_, rfl, ?_⟩; have n0_ := A_ (below_step (bW0 HB.out) hb); clear HB; have HB := n0_; clear n0_; (try clear hb)))
  go_ret
  exact ⟨eQ, by repeat (first | (with_reducible first | exact HB.out | apply below_alloc | apply pw_below_drewN | apply below_drew1) | exact HB.out)⟩
 replace c6 := Bool.eq_false_iff.mpr c6
 subst c6
 have H1 : (some 2) = some r := by rw [if_neg (show ¬ (false = true) by decide)] at H; exact H
 clear H
 have H := H1
 clear H1
 obtain rfl := Option.some.inj H
 go_enter Try.func68, Try.ntmps68
 go_wp2_with (first | ((with_reducible refine gate_callee (f := 29) rfl ?_); refine goesW_ (some 7) Try.func29 #[.slice A0 l0.length c0] ?_; (with_reducible refine (ice_Valid.calls k _ _ l0 true _ ?side1 ?side2 A3.out).mono ?_); (case side1 => exact cU HR0.out); (case side2 => exact HC0.out); rintro e w9 ⟨rfl, hb⟩; refine ⟨_, rfl, ?_⟩; have n0_ := A_ (below_step (bW0 HB.out) hb); clear HB; have HB := n0_; clear n0_; (try clear hb)) | ((with_reducible refine gate_callee (f := 64) rfl ?_); refine goesW_ (some 12) Try.func64 #[.slice A0 l0.length c0, .slice A1 l1.length c1] ?_; (with_reducible refine (ice_isRota.calls k _ _ l0 _ _ l1 false _ ?side1 ?side2 ?side3 ?side4 A5.out).mono ?_); (case side1 => exact cU (Kd.C_below HR0.out HB.out)); (case side2 => exact HC0.out); (case side3 => exact cU (Kd.C_below HR1.out HB.out)); (case side4 => exact HC1.out); rintro e w10 ⟨rfl, hb⟩; refine ⟨_, rfl, ?_⟩; have n0_ := A_ (below_step (bW0 HB.out) hb); clear HB; have HB := n0_; clear n0_; (try clear hb)))
 go_ret
 exact ⟨eQ, by repeat (first | (with_reducible first | exact HB.out | apply below_alloc | apply pw_below_drewN | apply below_drew1) | exact HB.out)⟩
def ice_Waits.l0 : Nat → List Int → List Int → Int → Int → Option (List Int × Int)
 | 0, _, _, _, _ => none
 | k + 1, x1, x7, x16, x17 => if x17 < x16 then ((ice_waits.f k x1 x17).bind fun t102 => (if x7.length < 17592186044416 then (ice_Waits.l0 k x1 (x7 ++ [t102]) x16 (wrap64 (x17 + 1))) else (none))) else (some (x7, 0))
def ice_Waits.f (k : Nat) (l0 : List Int) (l1 : List Int) : Option (List Int × Int) := (ice_asked.f k l0 l1).bind fun t101 => (if t101 = 0 then (ice_Waits.l0 k l1 ([] : List Int) (l0.length : Int) 0) else (some (([] : List Int), t101)))
theorem ice_Waits.mono_l : ∀ k, (∀ y0 y1 y2 y3, LeO (ice_Waits.l0 k y0 y1 y2 y3) (ice_Waits.l0 (k + 1) y0 y1 y2 y3))
 | 0 => fun _ _ _ _ r h => by simp [ice_Waits.l0] at h
 | k + 1 => by
  have ih0 := ice_Waits.mono_l k
  ·intro y0 y1 y2 y3
   unfold ice_Waits.l0
   repeat' first
   | (with_reducible exact ih0 _ _ _ _)
   | (with_reducible exact ice_asked.mono _ _ _)
   | (with_reducible exact ice_waits.mono _ _ _)
   | (with_reducible exact LeO.refl _)
   | (with_reducible exact LeO.none _)
   | (with_reducible refine LeO.ite ?_ ?_)
   | (with_reducible refine LeO.bind ?_ (fun _ => ?_))
   | exact ih0 _ _ _ _
   | exact ice_asked.mono _ _ _
   | exact ice_waits.mono _ _ _
   | exact LeO.none _
   | refine LeO.ite ?_ ?_
   | refine LeO.bind ?_ (fun _ => ?_)
theorem ice_Waits.mono : ∀ a0 a1 k, LeO (ice_Waits.f k a0 a1) (ice_Waits.f (k + 1) a0 a1) := by
 intro a0 a1 k
 have ih0 := ice_Waits.mono_l k
 unfold ice_Waits.f
 repeat' first
   | (with_reducible exact ih0 _ _ _ _)
   | (with_reducible exact ice_asked.mono _ _ _)
   | (with_reducible exact ice_waits.mono _ _ _)
   | (with_reducible exact LeO.refl _)
   | (with_reducible exact LeO.none _)
   | (with_reducible refine LeO.ite ?_ ?_)
   | (with_reducible refine LeO.bind ?_ (fun _ => ?_))
   | exact ih0 _ _ _ _
   | exact ice_asked.mono _ _ _
   | exact ice_waits.mono _ _ _
   | exact LeO.none _
   | refine LeO.ite ?_ ?_
   | refine LeO.bind ?_ (fun _ => ?_)
set_option maxHeartbeats 8000000 in
set_option maxRecDepth 100000 in
theorem ice_Waits.calls (k : Nat) (A0 : Option Addr) (c0 : Nat) (l0 : List Int) (A1 : Option Addr) (c1 : Nat) (l1 : List Int) (r1 : List Int) (r2 : Int) (w : World) (hr0 : Kd.C (Kd.int .i64) w A0 l0.length l0) (hc0 : l0.length ≤ c0) (hr1 : Kd.C (Kd.int .i64) w A1 l1.length l1) (hc1 : l1.length ≤ c1) (h : ice_Waits.f k l0 l1 = some (r1, r2)) :
  Calls Try.prog 31 #[.slice A0 l0.length c0, .slice A1 l1.length c1] w fun e w' => ∃ v0_ : Value, e = .returned (.tuple #[v0_, .int .i64 r2]) ∧ Kd.R (Kd.int .i64) 3 w' w.heap.size (fun _ => True) v0_ r1 ∧ Below w.heap.size w w' := by
 have HR0 := A_ hr0
 have HC0 := A_ hc0
 clear hr0 hc0
 have HR1 := A_ hr1
 have HC1 := A_ hc1
 clear hr1 hc1
 have HB := A_ (Below.refl w.heap.size w)
 have H : ((ice_asked.f k l0 l1).bind fun t101 => (if t101 = 0 then (ice_Waits.l0 k l1 ([] : List Int) (l0.length : Int) 0) else (some (([] : List Int), t101)))) = some (r1, r2) := h
 clear h
 replace H := Option.bind_eq_some_iff.mp H
 obtain ⟨t101, A30, H⟩ := H
 replace H : (if t101 = 0 then (ice_Waits.l0 k l1 ([] : List Int) (l0.length : Int) 0) else (some (([] : List Int), t101))) = some (r1, r2) := H
 have A3 := A_ A30
 clear A30
 by_cases c4 : t101 = 0
 rotate_left
 ·rw [if_neg c4] at H
  have c4b0 : (t101 == 0) = false := beq_eq_false_iff_ne.mpr c4
  have c4b1 : (t101 != 0) = true := bne_iff_ne.mpr c4
  simp only [Option.some.injEq, Prod.mk.injEq] at H
  obtain ⟨rfl, rfl⟩ := H
  go_enter Try.func31, Try.ntmps31
  go_wp2_with (first | ((with_reducible refine gate_callee (f := 68) rfl ?_); refine goesW_ (some 11) Try.func68 #[.slice A0 l0.length c0, .slice A1 l1.length c1] ?_; (with_reducible refine (ice_asked.calls k _ _ l0 _ _ l1 t101 _ ?side1 ?side2 ?side3 ?side4 A3.out).mono ?_); (case side1 => exact cU HR0.out); (case side2 => exact HC0.out); (case side3 => exact cU HR1.out); (case side4 => exact HC1.out); rintro e w11 ⟨rfl, hb⟩; refine ⟨_, rfl, ?_⟩; have n0_ := A_ (below_step (bW0 HB.out) hb); clear HB; have HB := n0_; clear n0_; (try clear hb)))
  go_ret2
  exact ⟨_, by first | rfl | (simp [errW_none, errW_some] <;> rfl) | (simp [*, errW_none, errW_some] <;> rfl), by first | exact Kd.R_nil _ _ _ _ _ | exact Kd.N_nil _ _ _ _ _ | exact Kd.V_nil _ _ _ _ _ | exact Kd.Q_nil _ _ _ _ _ | exact Kd.S_nil _ _ _ _ _, by repeat (first | (with_reducible first | exact HB.out | apply below_alloc | apply pw_below_drewN | apply below_drew1) | exact HB.out)⟩
 rw [if_pos c4] at H
 have c4b0 : (t101 == 0) = true := beq_iff_eq.mpr c4
 have c4b1 : (t101 != 0) = false := bne_eq_false_iff_eq.mpr c4
 clear c4
 have H' := A_ H
 clear H
 go_enter Try.func31, Try.ntmps31
 go_wp2_with (first | ((with_reducible refine gate_callee (f := 68) rfl ?_); refine goesW_ (some 11) Try.func68 #[.slice A0 l0.length c0, .slice A1 l1.length c1] ?_; (with_reducible refine (ice_asked.calls k _ _ l0 _ _ l1 t101 _ ?side1 ?side2 ?side3 ?side4 A3.out).mono ?_); (case side1 => exact cU HR0.out); (case side2 => exact HC0.out); (case side3 => exact cU HR1.out); (case side4 => exact HC1.out); rintro e w5 ⟨rfl, hb⟩; refine ⟨_, rfl, ?_⟩; have n0_ := A_ (below_step (bW0 HB.out) hb); clear HB; have HB := n0_; clear n0_; (try clear hb)))
 go_loopg [7, 17] k (fun kq v7 v17 w' => ∃ (x7_1 : List Int) (x17_1 : Int), v17 = .int .i64 x17_1 ∧ Aside0 (ice_Waits.l0 kq l1 x7_1 (l0.length : Int) x17_1 = some (r1, r2)) ∧ Aside0 (kq ≤ k) ∧ Aside0 (Kd.R (Kd.int .i64) 3 w' w.heap.size (fun _ => True) v7 x7_1) ∧ Aside0 (Below w.heap.size w w'))
 case atStart => exact ⟨(([] : List Int)), (0), eS, H', ⟨Nat.le_refl _⟩, ⟨by first | exact Kd.R_nil _ _ _ _ _ | exact Kd.N_nil _ _ _ _ _ | exact Kd.V_nil _ _ _ _ _ | exact Kd.Q_nil _ _ _ _ _ | exact Kd.S_nil _ _ _ _ _⟩, ⟨by repeat (first | (with_reducible first | exact HB.out | apply below_alloc | apply pw_below_drewN | apply below_drew1) | exact HB.out)⟩⟩
 case round =>
  clear H'
  try clear c1; try clear p2; try clear c3; try clear c4; try clear c4b0; try clear c4b1
  obtain ⟨x7_1, x17_1, rfl, HA, HK1, HO_7, HB⟩ := hrel
  cases gk with
  | zero => exact absurd HA.out (by simp [ice_Waits.l0])
  | succ k1 =>
   have H := HA.out
   clear HA
   simp only [ice_Waits.l0] at H
   by_cases c6 : x17_1 < (l0.length : Int)
   rotate_left
   ·rw [if_neg c6] at H
    have c6b0 : decide (x17_1 < (l0.length : Int)) = false := decide_eq_false c6
    clear c6
    simp only [Option.some.injEq, Prod.mk.injEq] at H
    obtain ⟨rfl, rfl⟩ := H
    go_wp2
    go_ret2
    exact ⟨_, by first | rfl | (simp [errW_none, errW_some] <;> rfl) | (simp [*, errW_none, errW_some] <;> rfl), by (with_reducible repeat (first | apply Kd.R_alloc | apply Kd.R_drewN | apply Kd.R_drew)); exact HO_7.out, by repeat (first | (with_reducible first | exact HB.out | apply below_alloc | apply pw_below_drewN | apply below_drew1) | exact HB.out)⟩
   rw [if_pos c6] at H
   have c6b0 : decide (x17_1 < (l0.length : Int)) = true := decide_eq_true c6
   clear c6
   replace H := Option.bind_eq_some_iff.mp H
   obtain ⟨t102, A70, H⟩ := H
   replace H : (if x7_1.length < 17592186044416 then (ice_Waits.l0 k1 l1 (x7_1 ++ [t102]) (l0.length : Int) (wrap64 (x17_1 + 1))) else (none)) = some (r1, r2) := H
   have A7 := A_ A70
   clear A70
   by_cases c8 : x7_1.length < 17592186044416
   rotate_left
   ·rw [if_neg c8] at H
    exact absurd H (by simp)
   rw [if_pos c8] at H
   have LMc8 := A_ c8
   clear c8
   obtain ⟨y103, hy103⟩ : ∃ y_ : List Int, y_ = (x7_1 ++ [t102]) := ⟨_, rfl⟩
   replace H : (ice_Waits.l0 k1 l1 y103 (l0.length : Int) (wrap64 (x17_1 + 1))) = some (r1, r2) := by first | (rw [hy103]; with_reducible exact H) | (have H2_ := (Option.bind_some _ _).symm.trans H; rw [hy103]; with_reducible exact H2_) | (have H2_ := (Option.bind_some _ _).symm.trans H; with_reducible exact H2_) | with_reducible exact H | (rw [hy103]; exact H) | exact H
   have Ny103 := A_ hy103
   clear hy103
   have H' := A_ H
   clear H
   go_wp2_with (first | ((with_reducible refine gate_callee (f := 69) rfl ?_); refine goesW_ (some 23) Try.func69 #[.slice A1 l1.length c1, .int .i64 x17_1] ?_; (with_reducible refine (ice_waits.calls k1 _ _ l1 x17_1 t102 _ ?side1 ?side2 A7.out).mono ?_); (case side1 => exact cU (Kd.C_below HR1.out HB.out)); (case side2 => exact HC1.out); rintro e w9 ⟨rfl, hb⟩; refine ⟨_, rfl, ?_⟩; have n0_ := A_ (Kd.R_below (rU HO_7.out) hb); have n1_ := A_ (below_step (bW0 HB.out) hb); clear HO_7; clear HB; have HO_7 := n0_; have HB := n1_; clear n0_ n1_; (try clear hb)) | ((with_reducible refine gate_builtin (b := .append) (xs := #[.tmp 20, .tmp 24]) rfl ?_); at_builtin; refine Kd.R_append (Kd.int .i64) (w0 := w) w.heap.size rfl (.tmp 20) (.tmp 24) 22 3 (.int .i64 0) 8 rfl Try.underlying22 info3 rfl (by decide) (by omega) u7 x7_1 t102 [.int .i64 t102] (fun _ => True) (fun _ => False) rfl rfl ?aP (fun _ hk => hk.elim) ?aF ?aO ?aB ?aS ?aL ?_; (case aP => exact rfl); (case aB => exact (bW0 HB.out)); (case aF => exact (fun _ _ => trivial)); (case aO => exact (rU HO_7.out)); (case aS => exact (below_size (bW0 HB.out))); (case aL => have := LMc8.out; omega); intro v104 w10 ho hb hg hat; rw [← Ny103.out] at ho; have n0_ := A_ (hb); have n1_ := A_ (ho); clear HB; clear HO_7; have HB := n0_; have HO105 := n1_; clear n0_ n1_; clear ho hb hg hat))
   go_roundg k1
   case measure => have := HK1.out; omega
   case rel => exact ⟨(y103), (wrap64 (x17_1 + 1)), eS, H', ⟨by have := HK1.out; omega⟩, ⟨rU HO105.out⟩, ⟨by repeat (first | (with_reducible first | exact HB.out | apply below_alloc | apply pw_below_drewN | apply below_drew1) | exact HB.out)⟩⟩
theorem slices_Clone_int_int.nil_eql (len c : Nat) (W : World) : (binOp .eql 22 (.slice none len c) (.slice none 0 0)).run Try.prog W = .ok (.bool true) W := by
 have h22 := Try.underlying22
 have h : ∀ d : Nat, (Op.equalIn (d + 1) 22 (.slice none len c) (.slice none 0 0)).run Try.prog W = .ok true W := fun d => by
  simp [Op.equalIn, run_underlying h22]
 simp only [binOp]
 simp [Op.equal, Op.maxDepth, h 9999]
theorem slices_Clone_int_int.some_eql (ad : Addr) (len c : Nat) (W : World) : (binOp .eql 22 (.slice (some ad) len c) (.slice none 0 0)).run Try.prog W = .ok (.bool false) W := by
 have h22 := Try.underlying22
 have h : ∀ d : Nat, (Op.equalIn (d + 1) 22 (.slice (some ad) len c) (.slice none 0 0)).run Try.prog W = .ok false W := fun d => by
  simp [Op.equalIn, run_underlying h22]
 simp only [binOp]
 simp [Op.equal, Op.maxDepth, h 9999]
def slices_Clone_int_int.f (l0 : List Int) : Option (List Int) := (some (([] : List Int) : List Int)).bind fun y101 => (if y101.length + l0.length < 17592186044416 then (some (y101 ++ l0)) else (none))
set_option maxHeartbeats 8000000 in
set_option maxRecDepth 100000 in
theorem slices_Clone_int_int.calls (A0 : Option Addr) (c0 : Nat) (l0 : List Int) (r : List Int) (w : World) (hr0 : Kd.C (Kd.int .i64) w A0 l0.length l0) (hc0 : l0.length ≤ c0) (h : slices_Clone_int_int.f l0 = some r) :
  Calls Try.prog 51 #[.slice A0 l0.length c0] w fun e w' => ∃ v0_ : Value, e = .returned (v0_) ∧ Kd.R (Kd.int .i64) 3 w' w.heap.size (fun _ => True) v0_ r ∧ Below w.heap.size w w' := by
 cases A0 with
 | none =>
  have h0 : l0.length = 0 := by
   rcases Nat.eq_zero_or_pos l0.length with z | z
   ·exact z
   ·obtain ⟨ad, e, _⟩ := hr0.2.2 z
    cases e
  obtain rfl := List.eq_nil_of_length_eq_zero h0
  obtain rfl : [] = r := by
   unfold slices_Clone_int_int.f at h
   simpa using h
  clear hr0 h
  have hq := fun W => slices_Clone_int_int.nil_eql (0 : Nat) c0 W
  go_enter Try.func51, Try.ntmps51
  go_wp2
  go_ret
  exact ⟨_, rfl, Kd.R_nil _ _ _ _ _, Below.refl _ _⟩
 | some ad0 =>
  have hq := fun W => slices_Clone_int_int.some_eql ad0 l0.length c0 W
  have HR0 := A_ hr0
  have HC0 := A_ hc0
  clear hr0 hc0
  have HB := A_ (Below.refl w.heap.size w)
  have H : ((some (([] : List Int) : List Int)).bind fun y101 => (if y101.length + l0.length < 17592186044416 then (some (y101 ++ l0)) else (none))) = some r := h
  clear h
  obtain ⟨y101, hy101⟩ : ∃ y_ : List Int, y_ = (([] : List Int)) := ⟨_, rfl⟩
  replace H : (if y101.length + l0.length < 17592186044416 then (some (y101 ++ l0)) else (none)) = some r := by first | (rw [hy101]; with_reducible exact H) | (have H2_ := (Option.bind_some _ _).symm.trans H; rw [hy101]; with_reducible exact H2_) | (have H2_ := (Option.bind_some _ _).symm.trans H; with_reducible exact H2_) | with_reducible exact H | (rw [hy101]; exact H) | exact H
  have Ny101 := A_ hy101
  clear hy101
  by_cases c2 : y101.length + l0.length < 17592186044416
  rotate_left
  ·rw [if_neg c2] at H
   exact absurd H (by simp)
  rw [if_pos c2] at H
  have LMc2 := A_ c2
  clear c2
  obtain ⟨y104, hy104⟩ : ∃ y_ : List Int, y_ = (y101 ++ l0) := ⟨_, rfl⟩
  replace H : (some y104) = some r := by first | (rw [hy104]; with_reducible exact H) | (have H2_ := (Option.bind_some _ _).symm.trans H; rw [hy104]; with_reducible exact H2_) | (have H2_ := (Option.bind_some _ _).symm.trans H; with_reducible exact H2_) | with_reducible exact H | (rw [hy104]; exact H) | exact H
  have Ny104 := A_ hy104
  clear hy104
  obtain rfl := Option.some.inj H
  go_enter Try.func51, Try.ntmps51
  go_wp2_with (first | ((with_reducible refine gate_dst (N := 5) rfl ?_); refine Kd.R_lit (Kd.int .i64) _ 3 ?hg (N := 5) ?hd (xs := ([] : List Int)) (inner := []) (ok := fun _ => True) (okp := fun _ => True) ?hr ?hp (fun _ hk => hk) trivial (Below.refl _ _) (Nat.le_refl _) (by simp) ?_; (case hd => rfl); (case hg => rfl); (case hr => first | (go_simp; done) | (go_simp; rfl)); (case hp => exact (Reps.none _ _)); intro v102 w3 ho4 hb hg_ hnew_; clear hg_ hnew_; (first | rw [← Ny101.out] at ho4 | (simp only [Int.reduceToNat] at ho4; rw [← Ny101.out] at ho4)); have n0_ := A_ (Kd.R_lower ho4 (below_size (bW0 HB.out))); have n1_ := A_ (below_step (bW0 HB.out) hb); clear HB; have HO103 := n0_; have HB := n1_; clear n0_ n1_; clear hb ho4) | ((with_reducible refine gate_builtin (b := .append) (xs := #[.tmp 5, .tmp 6]) rfl ?_); at_builtin; refine Kd.R_append_rows (Kd.int .i64) (w0 := w) w.heap.size rfl (.tmp 5) (.tmp 6) 22 3 (.int .i64 0) 8 rfl Try.underlying22 info3 rfl (by decide) (by omega) v102 y101 l0 _ _ _ (fun _ => True) (fun _ => False) rfl rfl ?aO ?aR (fun _ _ h => h) (fun _ h => h.elim) ?aF ?aB ?aS ?aL ?_; (case aR => exact cU (Kd.C_below HR0.out HB.out)); (case aB => exact (bW0 HB.out)); (case aF => exact (fun _ _ => trivial)); (case aO => exact (rU HO103.out)); (case aS => exact (below_size (bW0 HB.out))); (case aL => have := LMc2.out; omega); intro v105 w5 ho hb hg hat; rw [← Ny104.out] at ho; have n0_ := A_ (hb); have n1_ := A_ (ho); clear HB; clear HO103; have HB := n0_; have HO106 := n1_; clear n0_ n1_; clear ho hb hg hat))
  go_ret
  exact ⟨_, by first | rfl | (simp [errW_none, errW_some] <;> rfl) | (simp [*, errW_none, errW_some] <;> rfl), by (with_reducible repeat (first | apply Kd.R_alloc | apply Kd.R_drewN | apply Kd.R_drew)); exact HO106.out, by repeat (first | (with_reducible first | exact HB.out | apply below_alloc | apply pw_below_drewN | apply below_drew1) | exact HB.out)⟩
end Go.Proofs.Ythbpibdfookbmaa.G
end
