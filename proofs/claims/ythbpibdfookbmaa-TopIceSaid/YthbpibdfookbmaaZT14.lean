/- Functions of the seat and plain laws about them: GF46, GF14, GF17. -/
import Derived.Test.YthbpibdfookbmaaGBase
import Derived.Test.YthbpibdfookbmaaZT13
import Derived.Test.YthbpibdfookbmaaZT4
section
namespace Go.Proofs.Ythbpibdfookbmaa.G
open Go.RowKit Go.Proofs.YthbpibdfookbmaaW.PrintWords Go.Proofs.YthbpibdfookbmaaW.PrintLast Go.Proofs.YthbpibdfookbmaaW.PrintMore
attribute [local go_sem] max2_int min2_int max_two min_two max_three min_three max_four min_four
set_option linter.unusedVariables false
set_option linter.unusedSimpArgs false
def droppertop_goes.l0 : Nat → List Int → List Int → List Int → Int → Option (Bool)
 | 0, _, _, _, _ => none
 | k + 1, x0, x1, x5, x6 => if x6 < (x1.length : Int) then (if 0 ≤ x6 then ((ice_Tonight.f k x0 x5 (rd x1 x6)).bind fun bt102 => (if bt102.2 = 0 then (droppertop_goes.l0 k x0 x1 bt102.1 (wrap64 (x6 + 1))) else (some false))) else (none)) else (some true)
def droppertop_goes.f (k : Nat) (l0 : List Int) (l1 : List Int) : Option (Bool) := droppertop_goes.l0 k l0 l1 l0 0
theorem droppertop_goes.mono_l : ∀ k, (∀ y0 y1 y2 y3, LeO (droppertop_goes.l0 k y0 y1 y2 y3) (droppertop_goes.l0 (k + 1) y0 y1 y2 y3))
 | 0 => fun _ _ _ _ r h => by simp [droppertop_goes.l0] at h
 | k + 1 => by
  have ih0 := droppertop_goes.mono_l k
  ·intro y0 y1 y2 y3
   unfold droppertop_goes.l0
   repeat' first
   | (with_reducible exact ih0 _ _ _ _)
   | (with_reducible exact ice_Tonight.mono _ _ _ _)
   | (with_reducible exact LeO.refl _)
   | (with_reducible exact LeO.none _)
   | (with_reducible refine LeO.ite ?_ ?_)
   | (with_reducible refine LeO.bind ?_ (fun _ => ?_))
   | exact ih0 _ _ _ _
   | exact ice_Tonight.mono _ _ _ _
   | exact LeO.none _
   | refine LeO.ite ?_ ?_
   | refine LeO.bind ?_ (fun _ => ?_)
theorem droppertop_goes.mono : ∀ a0 a1 k, LeO (droppertop_goes.f k a0 a1) (droppertop_goes.f (k + 1) a0 a1) := by
 intro a0 a1 k
 have ih0 := droppertop_goes.mono_l k
 unfold droppertop_goes.f
 repeat' first
   | (with_reducible exact ih0 _ _ _ _)
   | (with_reducible exact ice_Tonight.mono _ _ _ _)
   | (with_reducible exact LeO.refl _)
   | (with_reducible exact LeO.none _)
   | (with_reducible refine LeO.ite ?_ ?_)
   | (with_reducible refine LeO.bind ?_ (fun _ => ?_))
   | exact ih0 _ _ _ _
   | exact ice_Tonight.mono _ _ _ _
   | exact LeO.none _
   | refine LeO.ite ?_ ?_
   | refine LeO.bind ?_ (fun _ => ?_)
set_option maxHeartbeats 8000000 in
set_option maxRecDepth 100000 in
theorem droppertop_goes.calls (k : Nat) (P0_ : Nat → Prop) (A0 : Option Addr) (c0 : Nat) (l0 : List Int) (A1 : Option Addr) (c1 : Nat) (l1 : List Int) (r : Bool) (w : World) (hs0 : Kd.V (Kd.int .i64) 3 w w.heap.size (fun k_ => P0_ k_) (.slice A0 l0.length c0) l0) (hr1 : Kd.C (Kd.int .i64) w A1 l1.length l1) (hc1 : l1.length ≤ c1) (h : droppertop_goes.f k l0 l1 = some r) :
  Calls Try.prog 46 #[.slice A0 l0.length c0, .slice A1 l1.length c1] w fun e w' => e = .returned (.bool r) ∧ Below w.heap.size w w' := by
 have HO0 := A_ (show Kd.V (Kd.int .i64) 3 w w.heap.size (fun k_ => (P0_ k_ ∨ w.heap.size ≤ k_)) (.slice A0 l0.length c0) l0 from Kd.V_mono hs0 (fun k_ hk => .inl hk))
 have HR1 := A_ hr1
 have HC1 := A_ hc1
 clear hr1 hc1
 have HB := A_ (Below.refl w.heap.size w)
 have H : (droppertop_goes.l0 k l0 l1 l0 0) = some r := h
 clear h
 have H' := A_ H
 clear H
 go_enter Try.func46, Try.ntmps46
 go_wp2
 go_loopg [5, 6] k (fun kq v5 v6 w' => ∃ (x5_1 : List Int) (x6_1 : Int), v6 = .int .i64 x6_1 ∧ Aside0 (droppertop_goes.l0 kq l0 l1 x5_1 x6_1 = some r) ∧ Aside0 (kq ≤ k) ∧ Aside0 (Kd.V (Kd.int .i64) 3 w' w.heap.size (fun k_ => (P0_ k_ ∨ w.heap.size ≤ k_)) (.slice A0 l0.length c0) l0) ∧ Aside0 (Kd.V (Kd.int .i64) 3 w' w.heap.size (fun k_ => (P0_ k_ ∨ w.heap.size ≤ k_)) v5 x5_1) ∧ Aside0 (Below w.heap.size w w'))
 case atStart => exact ⟨(l0), (0), eS, H', ⟨Nat.le_refl _⟩, ⟨vU HO0.out⟩, ⟨vU HO0.out⟩, ⟨by repeat (first | (with_reducible first | exact HB.out | apply below_alloc | apply pw_below_drewN | apply below_drew1) | exact HB.out)⟩⟩
 case round =>
  clear H'
  try clear c1; try clear p2
  obtain ⟨x5_1, x6_1, rfl, HA, HK1, HO_0, HO_5, HB⟩ := hrel
  cases gk with
  | zero => exact absurd HA.out (by simp [droppertop_goes.l0])
  | succ k1 =>
   have H := HA.out
   clear HA
   simp only [droppertop_goes.l0] at H
   by_cases c3 : x6_1 < (l1.length : Int)
   rotate_left
   ·rw [if_neg c3] at H
    have c3b0 : decide (x6_1 < (l1.length : Int)) = false := decide_eq_false c3
    clear c3
    obtain rfl := Option.some.inj H
    go_wp2
    go_ret
    exact ⟨eQ, by repeat (first | (with_reducible first | exact HB.out | apply below_alloc | apply pw_below_drewN | apply below_drew1) | exact HB.out)⟩
   rw [if_pos c3] at H
   have c3b0 : decide (x6_1 < (l1.length : Int)) = true := decide_eq_true c3
   clear c3
   by_cases c4 : 0 ≤ x6_1
   rotate_left
   ·rw [if_neg c4] at H
    exact absurd H (by simp)
   rw [if_pos c4] at H
   have c4b0 : decide (0 ≤ x6_1) = true := decide_eq_true c4
   clear c4
   replace H := Option.bind_eq_some_iff.mp H
   obtain ⟨⟨t102, t103⟩, A50, H⟩ := H
   replace H : (if t103 = 0 then (droppertop_goes.l0 k1 l0 l1 t102 (wrap64 (x6_1 + 1))) else (some false)) = some r := H
   have A5 := A_ A50
   clear A50
   by_cases c6 : t103 = 0
   rotate_left
   ·rw [if_neg c6] at H
    have c6b0 : (t103 == 0) = false := beq_eq_false_iff_ne.mpr c6
    have c6b1 : (t103 != 0) = true := bne_iff_ne.mpr c6
    obtain rfl := Option.some.inj H
    have p101 : 0 ≤ (x6_1 : Int) := oD
    have q101 : x6_1 < (l1.length : Int) := oD
    obtain ⟨ad101, e101, hx101_0⟩ := Kd.at_int HR1.out x6_1 p101 q101
    cases e101
    replace hx101_0 := (HB.out.cell (World.block_lt_of_cell? w _ hx101_0)).trans hx101_0
    replace p101 := eq_true p101
    replace q101 := eq_true q101
    obtain ⟨Ao9, co9, eo9⟩ := Kd.V_slice HO_5.out
    subst eo9
    go_wp2_with (first | ((with_reducible refine gate_callee (f := 35) rfl ?_); refine goesW_ (some 23) Try.func35 #[.slice A0 l0.length c0, .slice Ao9 x5_1.length co9, .int .i64 (rd l1 x6_1)] ?_; (with_reducible refine (ice_Tonight.calls k1 _ _ l0 _ _ x5_1 (rd l1 x6_1) t102 t103 _ ?side1 ?side2 ?side3 ?side4 A5.out).mono ?_); (case side1 => repeat (first | exact (Kd.V_reads' HO_0.out).2.2 | (with_reducible refine Kd.C_alloc ?_ _) | (with_reducible refine Kd.C_drewN ?_ _) | (with_reducible refine Kd.C_drew ?_))); (case side2 => exact (Kd.V_reads' HO_0.out).2.1); (case side3 => repeat (first | exact (Kd.V_reads' HO_5.out).2.2 | (with_reducible refine Kd.C_alloc ?_ _) | (with_reducible refine Kd.C_drewN ?_ _) | (with_reducible refine Kd.C_drew ?_))); (case side4 => exact (Kd.V_reads' HO_5.out).2.1); rintro e w10 ⟨v104, rfl, ho0, hb⟩; refine ⟨_, rfl, ?_⟩; have n0_ := A_ (Kd.V_elder' (vU HO_0.out) (Kd.R_base ho0) hb); have n1_ := A_ (Kd.V_elder' (vU HO_5.out) (Kd.R_base ho0) hb); have n2_ := A_ (Kd.R_lower (Kd.R_newM (M := fun k_ => (w.heap.size ≤ k_)) ho0 (below_size (bW0 HB.out)) (fun k_ h_ => h_)) (below_size (bW0 HB.out))); have n3_ := A_ (below_step (bW0 HB.out) hb); clear HO_0; clear HO_5; clear HB; have HO_0 := n0_; have HO_5 := n1_; have HO105 := n2_; have HB := n3_; clear n0_ n1_ n2_ n3_; (try clear hb); (try clear ho0)))
    go_ret
    exact ⟨eQ, by repeat (first | (with_reducible first | exact HB.out | apply below_alloc | apply pw_below_drewN | apply below_drew1) | exact HB.out)⟩
   rw [if_pos c6] at H
   have c6b0 : (t103 == 0) = true := beq_iff_eq.mpr c6
   have c6b1 : (t103 != 0) = false := bne_eq_false_iff_eq.mpr c6
   clear c6
   have H' := A_ H
   clear H
   have p101 : 0 ≤ (x6_1 : Int) := oD
   have q101 : x6_1 < (l1.length : Int) := oD
   obtain ⟨ad101, e101, hx101_0⟩ := Kd.at_int HR1.out x6_1 p101 q101
   cases e101
   replace hx101_0 := (HB.out.cell (World.block_lt_of_cell? w _ hx101_0)).trans hx101_0
   replace p101 := eq_true p101
   replace q101 := eq_true q101
   obtain ⟨Ao7, co7, eo7⟩ := Kd.V_slice HO_5.out
   subst eo7
   go_wp2_with (first | ((with_reducible refine gate_callee (f := 35) rfl ?_); refine goesW_ (some 23) Try.func35 #[.slice A0 l0.length c0, .slice Ao7 x5_1.length co7, .int .i64 (rd l1 x6_1)] ?_; (with_reducible refine (ice_Tonight.calls k1 _ _ l0 _ _ x5_1 (rd l1 x6_1) t102 t103 _ ?side1 ?side2 ?side3 ?side4 A5.out).mono ?_); (case side1 => repeat (first | exact (Kd.V_reads' HO_0.out).2.2 | (with_reducible refine Kd.C_alloc ?_ _) | (with_reducible refine Kd.C_drewN ?_ _) | (with_reducible refine Kd.C_drew ?_))); (case side2 => exact (Kd.V_reads' HO_0.out).2.1); (case side3 => repeat (first | exact (Kd.V_reads' HO_5.out).2.2 | (with_reducible refine Kd.C_alloc ?_ _) | (with_reducible refine Kd.C_drewN ?_ _) | (with_reducible refine Kd.C_drew ?_))); (case side4 => exact (Kd.V_reads' HO_5.out).2.1); rintro e w8 ⟨v104, rfl, ho0, hb⟩; refine ⟨_, rfl, ?_⟩; have n0_ := A_ (Kd.V_elder' (vU HO_0.out) (Kd.R_base ho0) hb); have n1_ := A_ (Kd.V_elder' (vU HO_5.out) (Kd.R_base ho0) hb); have n2_ := A_ (Kd.R_lower (Kd.R_newM (M := fun k_ => (w.heap.size ≤ k_)) ho0 (below_size (bW0 HB.out)) (fun k_ h_ => h_)) (below_size (bW0 HB.out))); have n3_ := A_ (below_step (bW0 HB.out) hb); clear HO_0; clear HO_5; clear HB; have HO_0 := n0_; have HO_5 := n1_; have HO105 := n2_; have HB := n3_; clear n0_ n1_ n2_ n3_; (try clear hb); (try clear ho0)))
   go_roundg k1
   case measure => have := HK1.out; omega
   case rel => exact ⟨(t102), (wrap64 (x6_1 + 1)), eS, H', ⟨by have := HK1.out; omega⟩, ⟨by (with_reducible repeat (first | apply Kd.V_alloc | apply Kd.V_drewN | apply Kd.V_drew)); exact Kd.V_mono HO_0.out (fun _ hk => hk.1)⟩, ⟨Kd.V_mono (Kd.R_V (by (with_reducible repeat (first | apply Kd.R_alloc | apply Kd.R_drewN | apply Kd.R_drew)); exact Kd.R_mono HO105.out (fun _ hk => hk.1))) (fun k_ hk => by first | exact ⟨(.inr (hk.1)), hk.2⟩ | exact (.inr (hk)))⟩, ⟨by repeat (first | (with_reducible first | exact HB.out | apply below_alloc | apply pw_below_drewN | apply below_drew1) | exact HB.out)⟩⟩
mutual
def dropperref08_Halves.l0 : Nat → List Int → List Int → Int → Option (List Int × Int)
 | 0, _, _, _ => none
 | k + 1, x0, x4, x5 => if x5 < (x0.length : Int) then (dropperref08_Halves.l1 k x0 x4 x5 1) else (some (x4, 0))
def dropperref08_Halves.l1 : Nat → List Int → List Int → Int → Int → Option (List Int × Int)
 | 0, _, _, _, _ => none
 | k + 1, x0, x4, x5, x6 => if 0 ≤ x5 then (if x5 < (x0.length : Int) then (if (wrap64 (2 * x6)) ≤ (rd x0 x5) then (dropperref08_Halves.l1 k x0 x4 x5 (wrap64 (x6 * 2))) else (if x4.length < 17592186044416 then (dropperref08_Halves.l0 k x0 (x4 ++ [x6]) (wrap64 (x5 + 1))) else (none))) else (none)) else (none)
end
def dropperref08_Halves.f (k : Nat) (l0 : List Int) : Option (List Int × Int) := (dropperref08_Valid.f k l0).bind fun t101 => (if t101 = true then (dropperref08_Halves.l0 k l0 ([] : List Int) 0) else (some (([] : List Int), 80)))
theorem dropperref08_Halves.mono_l : ∀ k, (∀ y0 y1 y2, LeO (dropperref08_Halves.l0 k y0 y1 y2) (dropperref08_Halves.l0 (k + 1) y0 y1 y2)) ∧ (∀ y0 y1 y2 y3, LeO (dropperref08_Halves.l1 k y0 y1 y2 y3) (dropperref08_Halves.l1 (k + 1) y0 y1 y2 y3))
 | 0 => ⟨fun _ _ _ r h => by simp [dropperref08_Halves.l0] at h, fun _ _ _ _ r h => by simp [dropperref08_Halves.l1] at h⟩
 | k + 1 => by
  obtain ⟨ih0, ih1⟩ := dropperref08_Halves.mono_l k
  refine ⟨?_, ?_⟩
  ·intro y0 y1 y2
   unfold dropperref08_Halves.l0
   repeat' first
   | (with_reducible exact ih0 _ _ _)
   | (with_reducible exact ih1 _ _ _ _)
   | (with_reducible exact dropperref08_Valid.mono _ _)
   | (with_reducible exact LeO.refl _)
   | (with_reducible exact LeO.none _)
   | (with_reducible refine LeO.ite ?_ ?_)
   | (with_reducible refine LeO.bind ?_ (fun _ => ?_))
   | exact ih0 _ _ _
   | exact ih1 _ _ _ _
   | exact dropperref08_Valid.mono _ _
   | exact LeO.none _
   | refine LeO.ite ?_ ?_
   | refine LeO.bind ?_ (fun _ => ?_)
  ·intro y0 y1 y2 y3
   unfold dropperref08_Halves.l1
   repeat' first
   | (with_reducible exact ih0 _ _ _)
   | (with_reducible exact ih1 _ _ _ _)
   | (with_reducible exact dropperref08_Valid.mono _ _)
   | (with_reducible exact LeO.refl _)
   | (with_reducible exact LeO.none _)
   | (with_reducible refine LeO.ite ?_ ?_)
   | (with_reducible refine LeO.bind ?_ (fun _ => ?_))
   | exact ih0 _ _ _
   | exact ih1 _ _ _ _
   | exact dropperref08_Valid.mono _ _
   | exact LeO.none _
   | refine LeO.ite ?_ ?_
   | refine LeO.bind ?_ (fun _ => ?_)
theorem dropperref08_Halves.mono : ∀ a0 k, LeO (dropperref08_Halves.f k a0) (dropperref08_Halves.f (k + 1) a0) := by
 intro a0 k
 obtain ⟨ih0, ih1⟩ := dropperref08_Halves.mono_l k
 unfold dropperref08_Halves.f
 repeat' first
   | (with_reducible exact ih0 _ _ _)
   | (with_reducible exact ih1 _ _ _ _)
   | (with_reducible exact dropperref08_Valid.mono _ _)
   | (with_reducible exact LeO.refl _)
   | (with_reducible exact LeO.none _)
   | (with_reducible refine LeO.ite ?_ ?_)
   | (with_reducible refine LeO.bind ?_ (fun _ => ?_))
   | exact ih0 _ _ _
   | exact ih1 _ _ _ _
   | exact dropperref08_Valid.mono _ _
   | exact LeO.none _
   | refine LeO.ite ?_ ?_
   | refine LeO.bind ?_ (fun _ => ?_)
set_option maxHeartbeats 8000000 in
set_option maxRecDepth 100000 in
theorem dropperref08_Halves.calls (k : Nat) (A0 : Option Addr) (c0 : Nat) (l0 : List Int) (r1 : List Int) (r2 : Int) (w : World) (hr0 : Kd.C (Kd.int .i64) w A0 l0.length l0) (hc0 : l0.length ≤ c0) (h : dropperref08_Halves.f k l0 = some (r1, r2)) :
  Calls Try.prog 14 #[.slice A0 l0.length c0] w fun e w' => ∃ v0_ : Value, e = .returned (.tuple #[v0_, .int .i64 r2]) ∧ Kd.R (Kd.int .i64) 3 w' w.heap.size (fun _ => True) v0_ r1 ∧ Below w.heap.size w w' := by
 have HR0 := A_ hr0; have HC0 := A_ hc0; clear hr0 hc0; have HB := A_ (Below.refl w.heap.size w)
 have H : ((dropperref08_Valid.f k l0).bind fun t101 => (if t101 = true then (dropperref08_Halves.l0 k l0 ([] : List Int) 0) else (some (([] : List Int), 80)))) = some (r1, r2) := h
 clear h; replace H := Option.bind_eq_some_iff.mp H; obtain ⟨t101, A20, H⟩ := H; (try dsimp only at H); have A2 := A_ A20; clear A20; by_cases c3 : t101 = true; rotate_left
 ·replace c3 := Bool.eq_false_iff.mpr c3
  subst c3; rw [if_neg (show ¬ (false = true) by decide)] at H; simp only [Option.some.injEq, Prod.mk.injEq] at H; obtain ⟨rfl, rfl⟩ := H
  go_enter Try.func14, Try.ntmps14
  go_wp2_with (first | ((with_reducible refine gate_callee (f := 30) rfl ?_); refine goesW_ (some 8) Try.func30 #[.slice A0 l0.length c0] ?_; (with_reducible refine (dropperref08_Valid.calls k _ _ l0 false _ ?side1 ?side2 A2.out).mono ?_); (case side1 => exact cU HR0.out); (case side2 => exact HC0.out); rintro e w' ⟨rfl, ⟨nd, rfl⟩⟩; refine ⟨_, rfl, ?_⟩))
  go_ret2
  exact ⟨_, by first | rfl | (simp [errW_none, errW_some] <;> rfl) | (simp [*, errW_none, errW_some] <;> rfl), by first | exact Kd.R_nil _ _ _ _ _ | exact Kd.N_nil _ _ _ _ _ | exact Kd.V_nil _ _ _ _ _ | exact Kd.Q_nil _ _ _ _ _ | exact Kd.S_nil _ _ _ _ _, by repeat (first | (with_reducible first | exact HB.out | apply below_alloc | apply pw_below_drewN | apply below_drew1) | exact HB.out)⟩
 subst c3; rw [if_pos rfl] at H; have H' := A_ H; clear H
 go_enter Try.func14, Try.ntmps14
 go_wp2_with (first | ((with_reducible refine gate_callee (f := 30) rfl ?_); refine goesW_ (some 8) Try.func30 #[.slice A0 l0.length c0] ?_; (with_reducible refine (dropperref08_Valid.calls k _ _ l0 true _ ?side1 ?side2 A2.out).mono ?_); (case side1 => exact cU HR0.out); (case side2 => exact HC0.out); rintro e w' ⟨rfl, ⟨nd, rfl⟩⟩; refine ⟨_, rfl, ?_⟩))
 go_loopg [4, 5] k (fun kq v4 v5 w' => ∃ (x4_1 : List Int) (x5_1 : Int), v5 = .int .i64 x5_1 ∧ Aside0 (dropperref08_Halves.l0 kq l0 x4_1 x5_1 = some (r1, r2)) ∧ Aside0 (kq ≤ k) ∧ Aside0 (Kd.R (Kd.int .i64) 3 w' w.heap.size (fun _ => True) v4 x4_1) ∧ Aside0 (Below w.heap.size w w'))
 case atStart => exact ⟨(([] : List Int)), (0), eS, H', ⟨Nat.le_refl _⟩, ⟨by first | exact Kd.R_nil _ _ _ _ _ | exact Kd.N_nil _ _ _ _ _ | exact Kd.V_nil _ _ _ _ _ | exact Kd.Q_nil _ _ _ _ _ | exact Kd.S_nil _ _ _ _ _⟩, ⟨by repeat (first | (with_reducible first | exact HB.out | apply below_alloc | apply pw_below_drewN | apply below_drew1) | exact HB.out)⟩⟩
 case round =>
  clear H'
  try clear c1; try clear p2; try clear c3
  obtain ⟨x4_1, x5_1, rfl, HA, HK1, HO_4, HB⟩ := hrel
  cases gk with
  | zero => exact absurd HA.out (by simp [dropperref08_Halves.l0])
  | succ k1 =>
   have H := HA.out; clear HA; simp only [dropperref08_Halves.l0] at H; by_cases c4 : x5_1 < (l0.length : Int); rotate_left
   ·rw [if_neg c4] at H
    have c4b0 : decide (x5_1 < (l0.length : Int)) = false := decide_eq_false c4; clear c4; simp only [Option.some.injEq, Prod.mk.injEq] at H; obtain ⟨rfl, rfl⟩ := H
    go_wp2
    go_ret2
    exact ⟨_, by first | rfl | (simp [errW_none, errW_some] <;> rfl) | (simp [*, errW_none, errW_some] <;> rfl), by (with_reducible repeat (first | apply Kd.R_alloc | apply Kd.R_drewN | apply Kd.R_drew)); exact HO_4.out, by repeat (first | (with_reducible first | exact HB.out | apply below_alloc | apply pw_below_drewN | apply below_drew1) | exact HB.out)⟩
   rw [if_pos c4] at H; have c4b0 : decide (x5_1 < (l0.length : Int)) = true := decide_eq_true c4; clear c4; have H' := A_ H; clear H
   go_wp2
   go_loopg [6] k1 (fun kq v6 w' => ∃ (x6_2 : Int), v6 = .int .i64 x6_2 ∧ Aside0 (dropperref08_Halves.l1 kq l0 x4_1 x5_1 x6_2 = some (r1, r2)) ∧ Aside0 (kq ≤ k1) ∧ Aside0 (Kd.R (Kd.int .i64) 3 w' w.heap.size (fun _ => True) u4 x4_1) ∧ Aside0 (Below w.heap.size w w'))
   case atStart => exact ⟨(1), eS, H', ⟨Nat.le_refl _⟩, ⟨rU HO_4.out⟩, ⟨by repeat (first | (with_reducible first | exact HB.out | apply below_alloc | apply pw_below_drewN | apply below_drew1) | exact HB.out)⟩⟩
   case round =>
    clear H'
    try clear c1; try clear p2; try clear c3; try clear c4; try clear c4b0; try clear p2
    obtain ⟨x6_2, rfl, HA, HK2, HO_4, HB⟩ := hrel
    cases gk with
    | zero => exact absurd HA.out (by simp [dropperref08_Halves.l1])
    | succ k2 =>
     have H := HA.out; clear HA; simp only [dropperref08_Halves.l1] at H; by_cases c5 : 0 ≤ x5_1; rotate_left
     ·rw [if_neg c5] at H
      exact absurd H (by simp)
     rw [if_pos c5] at H; have c5b0 : decide (0 ≤ x5_1) = true := decide_eq_true c5; clear c5; by_cases c6 : x5_1 < (l0.length : Int); rotate_left
     ·rw [if_neg c6] at H
      exact absurd H (by simp)
     rw [if_pos c6] at H; have c6b0 : decide (x5_1 < (l0.length : Int)) = true := decide_eq_true c6; clear c6; by_cases c7 : (wrap64 (2 * x6_2)) ≤ (rd l0 x5_1)
     ·rw [if_pos c7] at H
      have c7b0 : decide ((wrap64 (2 * x6_2)) ≤ (rd l0 x5_1)) = true := decide_eq_true c7; clear c7; have H' := A_ H; clear H; have p102 : 0 ≤ (x5_1 : Int) := oD; have q102 : x5_1 < (l0.length : Int) := oD; obtain ⟨ad102, e102, hx102_0⟩ := Kd.at_int HR0.out x5_1 p102 q102
      cases e102
      replace hx102_0 := (HB.out.cell (World.block_lt_of_cell? w _ hx102_0)).trans hx102_0; replace p102 := eq_true p102; replace q102 := eq_true q102
      go_wp2
      go_roundg k2
      case measure => have := HK1.out; have := HK2.out; omega
      case rel => exact ⟨(wrap64 (x6_2 * 2)), eS, H', ⟨by have := HK1.out; have := HK2.out; omega⟩, ⟨rU HO_4.out⟩, ⟨by repeat (first | (with_reducible first | exact HB.out | apply below_alloc | apply pw_below_drewN | apply below_drew1) | exact HB.out)⟩⟩
     rw [if_neg c7] at H; have c7b0 : decide ((wrap64 (2 * x6_2)) ≤ (rd l0 x5_1)) = false := decide_eq_false c7; clear c7; by_cases c8 : x4_1.length < 17592186044416; rotate_left
     ·rw [if_neg c8] at H
      exact absurd H (by simp)
     rw [if_pos c8] at H; have LMc8 := A_ c8; clear c8; obtain ⟨y103, hy103⟩ : ∃ y_ : List Int, y_ = (x4_1 ++ [x6_2]) := ⟨_, rfl⟩
     replace H : (dropperref08_Halves.l0 k2 l0 y103 (wrap64 (x5_1 + 1))) = some (r1, r2) := by first | (rw [hy103]; with_reducible exact H) | (have H2_ := (Option.bind_some _ _).symm.trans H; rw [hy103]; with_reducible exact H2_) | (have H2_ := (Option.bind_some _ _).symm.trans H; with_reducible exact H2_) | with_reducible exact H | (rw [hy103]; exact H) | exact H
     have Ny103 := A_ hy103; clear hy103; have H' := A_ H; clear H; have p102 : 0 ≤ (x5_1 : Int) := oD; have q102 : x5_1 < (l0.length : Int) := oD; obtain ⟨ad102, e102, hx102_0⟩ := Kd.at_int HR0.out x5_1 p102 q102
     cases e102
     replace hx102_0 := (HB.out.cell (World.block_lt_of_cell? w _ hx102_0)).trans hx102_0; replace p102 := eq_true p102; replace q102 := eq_true q102
     go_wp2_with (first | ((with_reducible refine gate_builtin (b := .append) (xs := #[.tmp 25, .tmp 27]) rfl ?_); at_builtin; refine Kd.R_append (Kd.int .i64) (w0 := w) w.heap.size rfl (.tmp 25) (.tmp 27) 22 3 (.int .i64 0) 8 rfl Try.underlying22 info3 rfl (by decide) (by omega) u4 x4_1 x6_2 [.int .i64 x6_2] (fun _ => True) (fun _ => False) rfl rfl ?aP (fun _ hk => hk.elim) ?aF ?aO ?aB ?aS ?aL ?_; (case aP => exact rfl); (case aB => exact (bW0 HB.out)); (case aF => exact (fun _ _ => trivial)); (case aO => exact (rU HO_4.out)); (case aS => exact (below_size (bW0 HB.out))); (case aL => have := LMc8.out; omega); intro v104 w9 ho hb hg hat; rw [← Ny103.out] at ho; have n0_ := A_ (hb); have n1_ := A_ (ho); clear HB; clear HO_4; have HB := n0_; have HO105 := n1_; clear n0_ n1_; clear ho hb hg hat))
     go_roundg k2
     case measure => have := HK1.out; have := HK2.out; omega
     case rel => exact ⟨(y103), (wrap64 (x5_1 + 1)), eS, H', ⟨by have := HK1.out; have := HK2.out; omega⟩, ⟨rU HO105.out⟩, ⟨by repeat (first | (with_reducible first | exact HB.out | apply below_alloc | apply pw_below_drewN | apply below_drew1) | exact HB.out)⟩⟩
mutual
def dropperref08_ByHalves.l0 : Nat → List Int → List Int → List Int → Int → Option (List Int × Int)
 | 0, _, _, _, _ => none
 | k + 1, x0, x4, x6, x7 => if x7 ≤ 8 then (dropperref08_ByHalves.l1 k x0 x4 x6 x7 0) else (some (x6, 0))
def dropperref08_ByHalves.l1 : Nat → List Int → List Int → List Int → Int → Int → Option (List Int × Int)
 | 0, _, _, _, _, _ => none
 | k + 1, x0, x4, x6, x7, x8 => if x8 < (x0.length : Int) then (if 0 ≤ x8 then (if x8 < (x4.length : Int) then (if (rd x4 x8) = x7 then (dropperref08_ByHalves.l2 k x0 x4 x6 x7 x8 0) else (dropperref08_ByHalves.l1 k x0 x4 x6 x7 (wrap64 (x8 + 1)))) else (none)) else (none)) else (dropperref08_ByHalves.l0 k x0 x4 x6 (wrap64 (x7 + 1)))
def dropperref08_ByHalves.j3 : Nat → List Int → List Int → List Int → Int → Int → Int → Option (List Int × Int)
 | 0, _, _, _, _, _, _ => none
 | k + 1, x0, x4, x6, x7, x8, x9 => if x9 = 8 then (some (([] : List Int), 5)) else (dropperref08_ByHalves.l3 k x0 x4 x6 x7 x8 x9)
def dropperref08_ByHalves.l3 : Nat → List Int → List Int → List Int → Int → Int → Int → Option (List Int × Int)
 | 0, _, _, _, _, _, _ => none
 | k + 1, x0, x4, x6, x7, x8, x9 => if x9 < 8 then (if 0 ≤ x9 then (if x9 < (x6.length : Int) then (if (rd x6 x9) ≥ 0 then (some (([] : List Int), 5)) else (dropperref08_ByHalves.l3 k x0 x4 (x6.set (x9 : Int).toNat x8) x7 x8 (wrap64 (x9 + x7)))) else (none)) else (none)) else (dropperref08_ByHalves.l1 k x0 x4 x6 x7 (wrap64 (x8 + 1)))
def dropperref08_ByHalves.l2 : Nat → List Int → List Int → List Int → Int → Int → Int → Option (List Int × Int)
 | 0, _, _, _, _, _, _ => none
 | k + 1, x0, x4, x6, x7, x8, x9 => if x9 < 8 then (if 0 ≤ x9 then (if x9 < (x6.length : Int) then (if (rd x6 x9) ≥ 0 then (dropperref08_ByHalves.l2 k x0 x4 x6 x7 x8 (wrap64 (x9 + 1))) else (dropperref08_ByHalves.j3 k x0 x4 x6 x7 x8 x9)) else (none)) else (none)) else (dropperref08_ByHalves.j3 k x0 x4 x6 x7 x8 x9)
end
def dropperref08_ByHalves.f (k : Nat) (l0 : List Int) : Option (List Int × Int) := (dropperref08_Halves.f k l0).bind fun bt101 => (if bt101.2 = 0 then (dropperref08_ByHalves.l0 k l0 bt101.1 (([(-1), (-1), (-1), (-1), (-1), (-1), (-1), (-1)] : List Int)) 1) else (some (([] : List Int), bt101.2)))
theorem dropperref08_ByHalves.mono_l : ∀ k, (∀ y0 y1 y2 y3, LeO (dropperref08_ByHalves.l0 k y0 y1 y2 y3) (dropperref08_ByHalves.l0 (k + 1) y0 y1 y2 y3)) ∧ (∀ y0 y1 y2 y3 y4, LeO (dropperref08_ByHalves.l1 k y0 y1 y2 y3 y4) (dropperref08_ByHalves.l1 (k + 1) y0 y1 y2 y3 y4)) ∧ (∀ y0 y1 y2 y3 y4 y5, LeO (dropperref08_ByHalves.j3 k y0 y1 y2 y3 y4 y5) (dropperref08_ByHalves.j3 (k + 1) y0 y1 y2 y3 y4 y5)) ∧ (∀ y0 y1 y2 y3 y4 y5, LeO (dropperref08_ByHalves.l3 k y0 y1 y2 y3 y4 y5) (dropperref08_ByHalves.l3 (k + 1) y0 y1 y2 y3 y4 y5)) ∧ (∀ y0 y1 y2 y3 y4 y5, LeO (dropperref08_ByHalves.l2 k y0 y1 y2 y3 y4 y5) (dropperref08_ByHalves.l2 (k + 1) y0 y1 y2 y3 y4 y5))
 | 0 => ⟨fun _ _ _ _ r h => by simp [dropperref08_ByHalves.l0] at h, fun _ _ _ _ _ r h => by simp [dropperref08_ByHalves.l1] at h, fun _ _ _ _ _ _ r h => by simp [dropperref08_ByHalves.j3] at h, fun _ _ _ _ _ _ r h => by simp [dropperref08_ByHalves.l3] at h, fun _ _ _ _ _ _ r h => by simp [dropperref08_ByHalves.l2] at h⟩
 | k + 1 => by
  obtain ⟨ih0, ih1, ih2, ih3, ih4⟩ := dropperref08_ByHalves.mono_l k
  refine ⟨?_, ?_, ?_, ?_, ?_⟩
  ·intro y0 y1 y2 y3
   unfold dropperref08_ByHalves.l0
   repeat' first
   | (with_reducible exact ih0 _ _ _ _)
   | (with_reducible exact ih1 _ _ _ _ _)
   | (with_reducible exact ih2 _ _ _ _ _ _)
   | (with_reducible exact ih3 _ _ _ _ _ _)
   | (with_reducible exact ih4 _ _ _ _ _ _)
   | (with_reducible exact dropperref08_Halves.mono _ _)
   | (with_reducible exact LeO.refl _)
   | (with_reducible exact LeO.none _)
   | (with_reducible refine LeO.ite ?_ ?_)
   | (with_reducible refine LeO.bind ?_ (fun _ => ?_))
   | exact ih0 _ _ _ _
   | exact ih1 _ _ _ _ _
   | exact ih2 _ _ _ _ _ _
   | exact ih3 _ _ _ _ _ _
   | exact ih4 _ _ _ _ _ _
   | exact dropperref08_Halves.mono _ _
   | exact LeO.none _
   | refine LeO.ite ?_ ?_
   | refine LeO.bind ?_ (fun _ => ?_)
  ·intro y0 y1 y2 y3 y4
   unfold dropperref08_ByHalves.l1
   repeat' first
   | (with_reducible exact ih0 _ _ _ _)
   | (with_reducible exact ih1 _ _ _ _ _)
   | (with_reducible exact ih2 _ _ _ _ _ _)
   | (with_reducible exact ih3 _ _ _ _ _ _)
   | (with_reducible exact ih4 _ _ _ _ _ _)
   | (with_reducible exact dropperref08_Halves.mono _ _)
   | (with_reducible exact LeO.refl _)
   | (with_reducible exact LeO.none _)
   | (with_reducible refine LeO.ite ?_ ?_)
   | (with_reducible refine LeO.bind ?_ (fun _ => ?_))
   | exact ih0 _ _ _ _
   | exact ih1 _ _ _ _ _
   | exact ih2 _ _ _ _ _ _
   | exact ih3 _ _ _ _ _ _
   | exact ih4 _ _ _ _ _ _
   | exact dropperref08_Halves.mono _ _
   | exact LeO.none _
   | refine LeO.ite ?_ ?_
   | refine LeO.bind ?_ (fun _ => ?_)
  ·intro y0 y1 y2 y3 y4 y5
   unfold dropperref08_ByHalves.j3
   repeat' first
   | (with_reducible exact ih0 _ _ _ _)
   | (with_reducible exact ih1 _ _ _ _ _)
   | (with_reducible exact ih2 _ _ _ _ _ _)
   | (with_reducible exact ih3 _ _ _ _ _ _)
   | (with_reducible exact ih4 _ _ _ _ _ _)
   | (with_reducible exact dropperref08_Halves.mono _ _)
   | (with_reducible exact LeO.refl _)
   | (with_reducible exact LeO.none _)
   | (with_reducible refine LeO.ite ?_ ?_)
   | (with_reducible refine LeO.bind ?_ (fun _ => ?_))
   | exact ih0 _ _ _ _
   | exact ih1 _ _ _ _ _
   | exact ih2 _ _ _ _ _ _
   | exact ih3 _ _ _ _ _ _
   | exact ih4 _ _ _ _ _ _
   | exact dropperref08_Halves.mono _ _
   | exact LeO.none _
   | refine LeO.ite ?_ ?_
   | refine LeO.bind ?_ (fun _ => ?_)
  ·intro y0 y1 y2 y3 y4 y5
   unfold dropperref08_ByHalves.l3
   repeat' first
   | (with_reducible exact ih0 _ _ _ _)
   | (with_reducible exact ih1 _ _ _ _ _)
   | (with_reducible exact ih2 _ _ _ _ _ _)
   | (with_reducible exact ih3 _ _ _ _ _ _)
   | (with_reducible exact ih4 _ _ _ _ _ _)
   | (with_reducible exact dropperref08_Halves.mono _ _)
   | (with_reducible exact LeO.refl _)
   | (with_reducible exact LeO.none _)
   | (with_reducible refine LeO.ite ?_ ?_)
   | (with_reducible refine LeO.bind ?_ (fun _ => ?_))
   | exact ih0 _ _ _ _
   | exact ih1 _ _ _ _ _
   | exact ih2 _ _ _ _ _ _
   | exact ih3 _ _ _ _ _ _
   | exact ih4 _ _ _ _ _ _
   | exact dropperref08_Halves.mono _ _
   | exact LeO.none _
   | refine LeO.ite ?_ ?_
   | refine LeO.bind ?_ (fun _ => ?_)
  ·intro y0 y1 y2 y3 y4 y5
   unfold dropperref08_ByHalves.l2
   repeat' first
   | (with_reducible exact ih0 _ _ _ _)
   | (with_reducible exact ih1 _ _ _ _ _)
   | (with_reducible exact ih2 _ _ _ _ _ _)
   | (with_reducible exact ih3 _ _ _ _ _ _)
   | (with_reducible exact ih4 _ _ _ _ _ _)
   | (with_reducible exact dropperref08_Halves.mono _ _)
   | (with_reducible exact LeO.refl _)
   | (with_reducible exact LeO.none _)
   | (with_reducible refine LeO.ite ?_ ?_)
   | (with_reducible refine LeO.bind ?_ (fun _ => ?_))
   | exact ih0 _ _ _ _
   | exact ih1 _ _ _ _ _
   | exact ih2 _ _ _ _ _ _
   | exact ih3 _ _ _ _ _ _
   | exact ih4 _ _ _ _ _ _
   | exact dropperref08_Halves.mono _ _
   | exact LeO.none _
   | refine LeO.ite ?_ ?_
   | refine LeO.bind ?_ (fun _ => ?_)
theorem dropperref08_ByHalves.mono : ∀ a0 k, LeO (dropperref08_ByHalves.f k a0) (dropperref08_ByHalves.f (k + 1) a0) := by
 intro a0 k
 obtain ⟨ih0, ih1, ih2, ih3, ih4⟩ := dropperref08_ByHalves.mono_l k
 unfold dropperref08_ByHalves.f
 repeat' first
   | (with_reducible exact ih0 _ _ _ _)
   | (with_reducible exact ih1 _ _ _ _ _)
   | (with_reducible exact ih2 _ _ _ _ _ _)
   | (with_reducible exact ih3 _ _ _ _ _ _)
   | (with_reducible exact ih4 _ _ _ _ _ _)
   | (with_reducible exact dropperref08_Halves.mono _ _)
   | (with_reducible exact LeO.refl _)
   | (with_reducible exact LeO.none _)
   | (with_reducible refine LeO.ite ?_ ?_)
   | (with_reducible refine LeO.bind ?_ (fun _ => ?_))
   | exact ih0 _ _ _ _
   | exact ih1 _ _ _ _ _
   | exact ih2 _ _ _ _ _ _
   | exact ih3 _ _ _ _ _ _
   | exact ih4 _ _ _ _ _ _
   | exact dropperref08_Halves.mono _ _
   | exact LeO.none _
   | refine LeO.ite ?_ ?_
   | refine LeO.bind ?_ (fun _ => ?_)
set_option maxHeartbeats 8000000 in
set_option maxRecDepth 100000 in
theorem dropperref08_ByHalves.calls (k : Nat) (A0 : Option Addr) (c0 : Nat) (l0 : List Int) (r1 : List Int) (r2 : Int) (w : World) (hr0 : Kd.C (Kd.int .i64) w A0 l0.length l0) (hc0 : l0.length ≤ c0) (h : dropperref08_ByHalves.f k l0 = some (r1, r2)) :
  Calls Try.prog 17 #[.slice A0 l0.length c0] w fun e w' => ∃ v0_ : Value, e = .returned (.tuple #[v0_, .int .i64 r2]) ∧ Kd.R (Kd.int .i64) 3 w' w.heap.size (fun _ => True) v0_ r1 ∧ Below w.heap.size w w' := by
 have HR0 := A_ hr0; have HC0 := A_ hc0; clear hr0 hc0; have HB := A_ (Below.refl w.heap.size w)
 have H : ((dropperref08_Halves.f k l0).bind fun bt101 => (if bt101.2 = 0 then (dropperref08_ByHalves.l0 k l0 bt101.1 (([(-1), (-1), (-1), (-1), (-1), (-1), (-1), (-1)] : List Int)) 1) else (some (([] : List Int), bt101.2)))) = some (r1, r2) := h
 clear h; replace H := Option.bind_eq_some_iff.mp H; obtain ⟨⟨t101, t102⟩, A20, H⟩ := H; (try dsimp only at H); have A2 := A_ A20; clear A20; by_cases c3 : t102 = 0; rotate_left
 ·rw [if_neg c3] at H
  have c3b0 : (t102 == 0) = false := beq_eq_false_iff_ne.mpr c3; have c3b1 : (t102 != 0) = true := bne_iff_ne.mpr c3; simp only [Option.some.injEq, Prod.mk.injEq] at H; obtain ⟨rfl, rfl⟩ := H
  go_enter Try.func17, Try.ntmps17
  go_wp2_with (first | ((with_reducible refine gate_callee (f := 14) rfl ?_); refine goesW_ (some 12) Try.func14 #[.slice A0 l0.length c0] ?_; (with_reducible refine (dropperref08_Halves.calls k _ _ l0 t101 t102 _ ?side1 ?side2 A2.out).mono ?_); (case side1 => exact cU HR0.out); (case side2 => exact HC0.out); rintro e w31 ⟨v103, rfl, ho0, hb⟩; refine ⟨_, rfl, ?_⟩; have n0_ := A_ (Kd.R_lower ho0 (below_size (bW0 HB.out))); have n1_ := A_ (below_step (bW0 HB.out) hb); clear HB; have HO104 := n0_; have HB := n1_; clear n0_ n1_; (try clear hb); (try clear ho0)))
  go_ret2
  exact ⟨_, by first | rfl | (simp [errW_none, errW_some] <;> rfl) | (simp [*, errW_none, errW_some] <;> rfl), by first | exact Kd.R_nil _ _ _ _ _ | exact Kd.N_nil _ _ _ _ _ | exact Kd.V_nil _ _ _ _ _ | exact Kd.Q_nil _ _ _ _ _ | exact Kd.S_nil _ _ _ _ _, by repeat (first | (with_reducible first | exact HB.out | apply below_alloc | apply pw_below_drewN | apply below_drew1) | exact HB.out)⟩
 rw [if_pos c3] at H; have c3b0 : (t102 == 0) = true := beq_iff_eq.mpr c3; have c3b1 : (t102 != 0) = false := bne_eq_false_iff_eq.mpr c3; clear c3; obtain ⟨y105, hy105⟩ : ∃ y_ : List Int, y_ = (([(-1), (-1), (-1), (-1), (-1), (-1), (-1), (-1)] : List Int)) := ⟨_, rfl⟩
 replace H : (dropperref08_ByHalves.l0 k l0 t101 y105 1) = some (r1, r2) := by first | (rw [hy105]; with_reducible exact H) | (have H2_ := (Option.bind_some _ _).symm.trans H; rw [hy105]; with_reducible exact H2_) | (have H2_ := (Option.bind_some _ _).symm.trans H; with_reducible exact H2_) | with_reducible exact H | (rw [hy105]; exact H) | exact H
 have Ny105 := A_ hy105; clear hy105; have H' := A_ H; clear H
 go_enter Try.func17, Try.ntmps17
 go_wp2_with (first | ((with_reducible refine gate_callee (f := 14) rfl ?_); refine goesW_ (some 12) Try.func14 #[.slice A0 l0.length c0] ?_; (with_reducible refine (dropperref08_Halves.calls k _ _ l0 t101 t102 _ ?side1 ?side2 A2.out).mono ?_); (case side1 => exact cU HR0.out); (case side2 => exact HC0.out); rintro e w4 ⟨v103, rfl, ho0, hb⟩; refine ⟨_, rfl, ?_⟩; have n0_ := A_ (Kd.R_lower ho0 (below_size (bW0 HB.out))); have n1_ := A_ (below_step (bW0 HB.out) hb); clear HB; have HO104 := n0_; have HB := n1_; clear n0_ n1_; (try clear hb); (try clear ho0)) | ((with_reducible refine gate_dst (N := 18) rfl ?_); refine Kd.R_lit (Kd.int .i64) _ 3 ?hg (N := 18) ?hd (xs := ([(-1), (-1), (-1), (-1), (-1), (-1), (-1), (-1)] : List Int)) (inner := [.int .i64 (-1), .int .i64 (-1), .int .i64 (-1), .int .i64 (-1), .int .i64 (-1), .int .i64 (-1), .int .i64 (-1), .int .i64 (-1)]) (ok := fun _ => True) (okp := fun _ => True) ?hr ?hp (fun _ hk => hk) trivial (Below.refl _ _) (Nat.le_refl _) (by simp) ?_; (case hd => rfl); (case hg => rfl); (case hr => first | (go_simp; done) | (go_simp; rfl)); (case hp => exact (Reps.one (show Kd.M (Kd.int .i64) _ _ _ (-1) [.int .i64 (-1)] from rfl) (Reps.one (show Kd.M (Kd.int .i64) _ _ _ (-1) [.int .i64 (-1)] from rfl) (Reps.one (show Kd.M (Kd.int .i64) _ _ _ (-1) [.int .i64 (-1)] from rfl) (Reps.one (show Kd.M (Kd.int .i64) _ _ _ (-1) [.int .i64 (-1)] from rfl) (Reps.one (show Kd.M (Kd.int .i64) _ _ _ (-1) [.int .i64 (-1)] from rfl) (Reps.one (show Kd.M (Kd.int .i64) _ _ _ (-1) [.int .i64 (-1)] from rfl) (Reps.one (show Kd.M (Kd.int .i64) _ _ _ (-1) [.int .i64 (-1)] from rfl) (Reps.one (show Kd.M (Kd.int .i64) _ _ _ (-1) [.int .i64 (-1)] from rfl) (Reps.none _ _)))))))))); intro v106 w5 ho6 hb hg_ hnew_; clear hg_ hnew_; (first | rw [← Ny105.out] at ho6 | (simp only [Int.reduceToNat] at ho6; rw [← Ny105.out] at ho6)); have n0_ := A_ (Kd.R_elder' (rU HO104.out) (Kd.R_base ho6) hb); have n1_ := A_ (Kd.R_lower (Kd.R_new' ho6 (Kd.R_lt (rU HO104.out))) (below_size (bW0 HB.out))); have n2_ := A_ (below_step (bW0 HB.out) hb); clear HO104; clear HB; have HO104 := n0_; have HO107 := n1_; have HB := n2_; clear n0_ n1_ n2_; clear hb ho6))
 go_loopg [7] k (fun kq v7 w' => ∃ (x6_1 : List Int) (x7_1 : Int), v7 = .int .i64 x7_1 ∧ Aside0 (dropperref08_ByHalves.l0 kq l0 t101 x6_1 x7_1 = some (r1, r2)) ∧ Aside0 (kq ≤ k) ∧ Aside0 (Kd.R (Kd.int .i64) 3 w' w.heap.size (fun k_ => some k_ ≠ (v106 : Value).ownBlock) v103 t101) ∧ Aside0 (Kd.R (Kd.int .i64) 3 w' w.heap.size (fun k_ => some k_ ≠ (v103 : Value).ownBlock) v106 x6_1) ∧ Aside0 (Below w.heap.size w w'))
 case atStart => exact ⟨(y105), (1), eS, H', ⟨Nat.le_refl _⟩, ⟨by (with_reducible repeat (first | apply Kd.R_alloc | apply Kd.R_drewN | apply Kd.R_drew)); exact Kd.R_mono HO104.out (fun _ hk => hk.2)⟩, ⟨by (with_reducible repeat (first | apply Kd.R_alloc | apply Kd.R_drewN | apply Kd.R_drew)); exact Kd.R_mono HO107.out (fun _ hk => hk.2)⟩, ⟨by repeat (first | (with_reducible first | exact HB.out | apply below_alloc | apply pw_below_drewN | apply below_drew1) | exact HB.out)⟩⟩
 case round =>
  clear H'
  try clear c1; try clear p2; try clear c3; try clear c3b0; try clear c3b1
  obtain ⟨x6_1, x7_1, rfl, HA, HK1, HO_4, HO_6, HB⟩ := hrel
  cases gk with
  | zero => exact absurd HA.out (by simp [dropperref08_ByHalves.l0])
  | succ k1 =>
   have H := HA.out; clear HA; simp only [dropperref08_ByHalves.l0] at H; by_cases c7 : x7_1 ≤ 8; rotate_left
   ·rw [if_neg c7] at H
    have c7b0 : decide (x7_1 ≤ 8) = false := decide_eq_false c7; clear c7; simp only [Option.some.injEq, Prod.mk.injEq] at H; obtain ⟨rfl, rfl⟩ := H
    go_wp2
    go_ret2
    exact ⟨_, by first | rfl | (simp [errW_none, errW_some] <;> rfl) | (simp [*, errW_none, errW_some] <;> rfl), by (with_reducible repeat (first | apply Kd.R_alloc | apply Kd.R_drewN | apply Kd.R_drew)); exact Kd.R_mono HO_6.out (fun _ hk => trivial), by repeat (first | (with_reducible first | exact HB.out | apply below_alloc | apply pw_below_drewN | apply below_drew1) | exact HB.out)⟩
   rw [if_pos c7] at H; have c7b0 : decide (x7_1 ≤ 8) = true := decide_eq_true c7; clear c7; have H' := A_ H; clear H
   go_wp2
   go_loopg [8] k1 (fun kq v8 w' => ∃ (x6_2 : List Int) (x8_2 : Int), v8 = .int .i64 x8_2 ∧ Aside0 (dropperref08_ByHalves.l1 kq l0 t101 x6_2 x7_1 x8_2 = some (r1, r2)) ∧ Aside0 (kq ≤ k1) ∧ Aside0 (Kd.R (Kd.int .i64) 3 w' w.heap.size (fun k_ => some k_ ≠ (v106 : Value).ownBlock) v103 t101) ∧ Aside0 (Kd.R (Kd.int .i64) 3 w' w.heap.size (fun k_ => some k_ ≠ (v103 : Value).ownBlock) v106 x6_2) ∧ Aside0 (Below w.heap.size w w'))
   case atStart => exact ⟨(x6_1), (0), eS, H', ⟨Nat.le_refl _⟩, ⟨rU HO_4.out⟩, ⟨rU HO_6.out⟩, ⟨by repeat (first | (with_reducible first | exact HB.out | apply below_alloc | apply pw_below_drewN | apply below_drew1) | exact HB.out)⟩⟩
   case round =>
    clear H'
    try clear c1; try clear p2; try clear c3; try clear c3b0; try clear c3b1; try clear c7; try clear c7b0; try clear p2
    obtain ⟨x6_2, x8_2, rfl, HA, HK2, HO_4, HO_6, HB⟩ := hrel
    cases gk with
    | zero => exact absurd HA.out (by simp [dropperref08_ByHalves.l1])
    | succ k2 =>
     have H := HA.out; clear HA; simp only [dropperref08_ByHalves.l1] at H; by_cases c8 : x8_2 < (l0.length : Int); rotate_left
     ·rw [if_neg c8] at H
      have c8b0 : decide (x8_2 < (l0.length : Int)) = false := decide_eq_false c8; clear c8; have H' := A_ H; clear H
      go_wp2
      go_roundg k2
      case measure => have := HK1.out; have := HK2.out; omega
      case rel => exact ⟨(x6_2), (wrap64 (x7_1 + 1)), eS, H', ⟨by have := HK1.out; have := HK2.out; omega⟩, ⟨rU HO_4.out⟩, ⟨rU HO_6.out⟩, ⟨by repeat (first | (with_reducible first | exact HB.out | apply below_alloc | apply pw_below_drewN | apply below_drew1) | exact HB.out)⟩⟩
     rw [if_pos c8] at H; have c8b0 : decide (x8_2 < (l0.length : Int)) = true := decide_eq_true c8; clear c8; by_cases c9 : 0 ≤ x8_2; rotate_left
     ·rw [if_neg c9] at H
      exact absurd H (by simp)
     rw [if_pos c9] at H; have c9b0 : decide (0 ≤ x8_2) = true := decide_eq_true c9; clear c9; by_cases c10 : x8_2 < (t101.length : Int); rotate_left
     ·rw [if_neg c10] at H
      exact absurd H (by simp)
     rw [if_pos c10] at H; have c10b0 : decide (x8_2 < (t101.length : Int)) = true := decide_eq_true c10; clear c10; by_cases c11 : (rd t101 x8_2) = x7_1; rotate_left
     ·rw [if_neg c11] at H
      have c11b0 : ((rd t101 x8_2) == x7_1) = false := beq_eq_false_iff_ne.mpr c11; have c11b1 : ((rd t101 x8_2) != x7_1) = true := bne_iff_ne.mpr c11; have H' := A_ H; clear H; obtain ⟨Ao30, co30, eo30⟩ := Kd.R_slice HO_4.out; subst eo30; have p108 : 0 ≤ (x8_2 : Int) := oD; have q108 : x8_2 < (t101.length : Int) := oD; obtain ⟨ad108, e108, hx108_0⟩ := Kd.at_int (Kd.R_reads' HO_4.out).2.2 x8_2 p108 q108
      cases e108
      replace p108 := eq_true p108; replace q108 := eq_true q108
      go_wp2
      go_roundg k2
      case measure => have := HK1.out; have := HK2.out; omega
      case rel => exact ⟨(x6_2), (wrap64 (x8_2 + 1)), eS, H', ⟨by have := HK1.out; have := HK2.out; omega⟩, ⟨rU HO_4.out⟩, ⟨rU HO_6.out⟩, ⟨by repeat (first | (with_reducible first | exact HB.out | apply below_alloc | apply pw_below_drewN | apply below_drew1) | exact HB.out)⟩⟩
     rw [if_pos c11] at H; have c11b0 : ((rd t101 x8_2) == x7_1) = true := beq_iff_eq.mpr c11; have c11b1 : ((rd t101 x8_2) != x7_1) = false := bne_eq_false_iff_eq.mpr c11; clear c11; have HC12 := A_ H; clear H; obtain ⟨Ao13, co13, eo13⟩ := Kd.R_slice HO_4.out; subst eo13; have p108 : 0 ≤ (x8_2 : Int) := oD; have q108 : x8_2 < (t101.length : Int) := oD; obtain ⟨ad108, e108, hx108_0⟩ := Kd.at_int (Kd.R_reads' HO_4.out).2.2 x8_2 p108 q108
     cases e108
     replace p108 := eq_true p108; replace q108 := eq_true q108
     go_upto_block 4 with (fail)
     go_cut [9] (fun v9 wc => ∃ (kq : Nat) (x9_11 : Int), v9 = .int .i64 x9_11 ∧ Aside0 (dropperref08_ByHalves.j3 kq l0 t101 x6_2 x7_1 x8_2 x9_11 = some (r1, r2)) ∧ Aside0 (kq ≤ k2) ∧ Aside0 (Kd.R (Kd.int .i64) 3 wc w.heap.size (fun k_ => some k_ ≠ (v106 : Value).ownBlock) (.slice (some ad108) t101.length co13) t101) ∧ Aside0 (Kd.R (Kd.int .i64) 3 wc w.heap.size (fun k_ => some k_ ≠ ((.slice (some ad108) t101.length co13) : Value).ownBlock) v106 x6_2) ∧ Aside0 (Below w.heap.size w wc))
     case first =>
      have H := HC12.out; clear HC12; have H' := A_ H; clear H
      go_wp2
      go_loopg [9] k2 (fun kq v9 w' => ∃ (x9_3 : Int), v9 = .int .i64 x9_3 ∧ Aside0 (dropperref08_ByHalves.l2 kq l0 t101 x6_2 x7_1 x8_2 x9_3 = some (r1, r2)) ∧ Aside0 (kq ≤ k2) ∧ Aside0 (Kd.R (Kd.int .i64) 3 w' w.heap.size (fun k_ => some k_ ≠ (v106 : Value).ownBlock) (.slice (some ad108) t101.length co13) t101) ∧ Aside0 (Kd.R (Kd.int .i64) 3 w' w.heap.size (fun k_ => some k_ ≠ ((.slice (some ad108) t101.length co13) : Value).ownBlock) v106 x6_2) ∧ Aside0 (Below w.heap.size w w'))
      case atStart => exact ⟨(0), eS, H', ⟨Nat.le_refl _⟩, ⟨rU HO_4.out⟩, ⟨rU HO_6.out⟩, ⟨by repeat (first | (with_reducible first | exact HB.out | apply below_alloc | apply pw_below_drewN | apply below_drew1) | exact HB.out)⟩⟩
      case round =>
       clear H'
       try clear c1; try clear p1; try clear q1; try clear hx1; try clear p2; try clear c3; try clear c3b0; try clear c3b1; try clear c7; try clear c7b0; try clear c8; try clear c8b0; try clear c9; try clear c9b0; try clear c10; try clear c10b0; try clear p10; try clear q10; try clear hx10; try clear c11; try clear c11b0; try clear c11b1; try clear hx108_0; try clear p108; try clear p2; try clear q108
       obtain ⟨x9_3, rfl, HA, HK3, HO_4, HO_6, HB⟩ := hrel
       cases gk with
       | zero => exact absurd HA.out (by simp [dropperref08_ByHalves.l2])
       | succ k3 =>
        have H := HA.out; clear HA; simp only [dropperref08_ByHalves.l2] at H; by_cases c14 : x9_3 < 8; rotate_left
        ·rw [if_neg c14] at H
         have c14b0 : decide (x9_3 < 8) = false := decide_eq_false c14; clear c14
         (first | rw [c14b0] | (simp only [i64_w, i32_w]; rw [c14b0]) | skip)
         have H' := A_ H; clear H
         go_wp2
         go_meet
         case rel => exact ⟨_, (x9_3), eS, H', ⟨by have := HK1.out; have := HK2.out; have := HK3.out; first | omega | exact Nat.le_refl _⟩, ⟨rU HO_4.out⟩, ⟨rU HO_6.out⟩, ⟨by repeat (first | (with_reducible first | exact HB.out | apply below_alloc | apply pw_below_drewN | apply below_drew1) | exact HB.out)⟩⟩
        rw [if_pos c14] at H; have c14b0 : decide (x9_3 < 8) = true := decide_eq_true c14; clear c14
        (first | rw [c14b0] | (simp only [i64_w, i32_w]; rw [c14b0]) | skip)
        by_cases c15 : 0 ≤ x9_3; rotate_left
        ·rw [if_neg c15] at H
         exact absurd H (by simp)
        rw [if_pos c15] at H; have c15b0 : decide (0 ≤ x9_3) = true := decide_eq_true c15; clear c15; by_cases c16 : x9_3 < (x6_2.length : Int); rotate_left
        ·rw [if_neg c16] at H
         exact absurd H (by simp)
        rw [if_pos c16] at H; have c16b0 : decide (x9_3 < (x6_2.length : Int)) = true := decide_eq_true c16; clear c16; by_cases c17 : (rd x6_2 x9_3) ≥ 0; rotate_left
        ·rw [if_neg c17] at H
         have c17b0 : decide (0 ≤ (rd x6_2 x9_3)) = false := decide_eq_false c17; clear c17; have H' := A_ H; clear H; obtain ⟨Ao19, co19, eo19⟩ := Kd.R_slice HO_6.out; subst eo19; have p109 : 0 ≤ (x9_3 : Int) := oD; have q109 : x9_3 < (x6_2.length : Int) := oD; obtain ⟨ad109, e109, hx109_0⟩ := Kd.at_int (Kd.R_reads' HO_6.out).2.2 x9_3 p109 q109
         cases e109
         replace p109 := eq_true p109; replace q109 := eq_true q109
         go_wp2
         go_meet
         case rel => exact ⟨_, (x9_3), eS, H', ⟨by have := HK1.out; have := HK2.out; have := HK3.out; first | omega | exact Nat.le_refl _⟩, ⟨rU HO_4.out⟩, ⟨rU HO_6.out⟩, ⟨by repeat (first | (with_reducible first | exact HB.out | apply below_alloc | apply pw_below_drewN | apply below_drew1) | exact HB.out)⟩⟩
        rw [if_pos c17] at H; have c17b0 : decide (0 ≤ (rd x6_2 x9_3)) = true := decide_eq_true c17; clear c17; have H' := A_ H; clear H; obtain ⟨Ao18, co18, eo18⟩ := Kd.R_slice HO_6.out; subst eo18; have p109 : 0 ≤ (x9_3 : Int) := oD; have q109 : x9_3 < (x6_2.length : Int) := oD; obtain ⟨ad109, e109, hx109_0⟩ := Kd.at_int (Kd.R_reads' HO_6.out).2.2 x9_3 p109 q109
        cases e109
        replace p109 := eq_true p109; replace q109 := eq_true q109
        go_wp2
        go_roundg k3
        case measure => have := HK1.out; have := HK2.out; have := HK3.out; omega
        case rel => exact ⟨(wrap64 (x9_3 + 1)), eS, H', ⟨by have := HK1.out; have := HK2.out; have := HK3.out; omega⟩, ⟨rU HO_4.out⟩, ⟨rU HO_6.out⟩, ⟨by repeat (first | (with_reducible first | exact HB.out | apply below_alloc | apply pw_below_drewN | apply below_drew1) | exact HB.out)⟩⟩
     case rest =>
      clear HC12
      try clear c1; try clear p1; try clear q1; try clear hx1; try clear p2; try clear c3; try clear c3b0; try clear c3b1; try clear p6; try clear c7; try clear c7b0; try clear c8; try clear c8b0; try clear c9; try clear c9b0; try clear c10; try clear c10b0; try clear p10; try clear q10; try clear hx10; try clear c11; try clear c11b0; try clear c11b1; try clear c14; try clear c14b0; try clear c15; try clear c15b0; try clear c16; try clear c16b0; try clear c17; try clear c17b0; try clear hx108_0; try clear hx109_0; try clear p1; try clear p10; try clear p108; try clear p109; try clear p2; try clear q1; try clear q10; try clear q108; try clear q109
      obtain ⟨kq, x9_11, rfl, HA, HJ11, HO_4, HO_6, HB⟩ := hcut
      cases kq with
      | zero => exact absurd HA.out (by simp [dropperref08_ByHalves.j3])
      | succ kj11 =>
       have H := HA.out; clear HA; simp only [dropperref08_ByHalves.j3] at H; by_cases c20 : x9_11 = 8
       ·rw [if_pos c20] at H
        have c20b0 : (x9_11 == 8) = true := beq_iff_eq.mpr c20; have c20b1 : (x9_11 != 8) = false := bne_eq_false_iff_eq.mpr c20; clear c20; simp only [Option.some.injEq, Prod.mk.injEq] at H; obtain ⟨rfl, rfl⟩ := H
        go_wp2
        go_ret2
        exact ⟨_, by first | rfl | (simp [errW_none, errW_some] <;> rfl) | (simp [*, errW_none, errW_some] <;> rfl), by first | exact Kd.R_nil _ _ _ _ _ | exact Kd.N_nil _ _ _ _ _ | exact Kd.V_nil _ _ _ _ _ | exact Kd.Q_nil _ _ _ _ _ | exact Kd.S_nil _ _ _ _ _, by repeat (first | (with_reducible first | exact HB.out | apply below_alloc | apply pw_below_drewN | apply below_drew1) | exact HB.out)⟩
       rw [if_neg c20] at H; have c20b0 : (x9_11 == 8) = false := beq_eq_false_iff_ne.mpr c20; have c20b1 : (x9_11 != 8) = true := bne_iff_ne.mpr c20; have H' := A_ H; clear H
       go_wp2
       go_loopg [9] kj11 (fun kq v9 w' => ∃ (x6_4 : List Int) (x9_4 : Int), v9 = .int .i64 x9_4 ∧ Aside0 (dropperref08_ByHalves.l3 kq l0 t101 x6_4 x7_1 x8_2 x9_4 = some (r1, r2)) ∧ Aside0 (kq ≤ kj11) ∧ Aside0 (Kd.R (Kd.int .i64) 3 w' w.heap.size (fun k_ => some k_ ≠ (v106 : Value).ownBlock) (.slice (some ad108) t101.length co13) t101) ∧ Aside0 (Kd.R (Kd.int .i64) 3 w' w.heap.size (fun k_ => some k_ ≠ ((.slice (some ad108) t101.length co13) : Value).ownBlock) v106 x6_4) ∧ Aside0 (Below w.heap.size w w'))
       case atStart => exact ⟨(x6_2), (x9_11), eS, H', ⟨Nat.le_refl _⟩, ⟨rU HO_4.out⟩, ⟨rU HO_6.out⟩, ⟨by repeat (first | (with_reducible first | exact HB.out | apply below_alloc | apply pw_below_drewN | apply below_drew1) | exact HB.out)⟩⟩
       case round =>
        clear H'
        try clear c1; try clear p1; try clear q1; try clear hx1; try clear c2; try clear p2; try clear c3; try clear c3b0; try clear c3b1; try clear p6; try clear c7; try clear c7b0; try clear c8; try clear c8b0; try clear c9; try clear c9b0; try clear c10; try clear c10b0; try clear p10; try clear q10; try clear hx10; try clear c11; try clear c11b0; try clear c11b1; try clear c14; try clear c14b0; try clear c15; try clear c15b0; try clear c16; try clear c16b0; try clear c17; try clear c17b0; try clear c20; try clear c20b0; try clear c20b1; try clear hx108_0; try clear hx109_0; try clear p1; try clear p10; try clear p108; try clear p109; try clear p2; try clear p6; try clear q1; try clear q10; try clear q108; try clear q109
        obtain ⟨x6_4, x9_4, rfl, HA, HK4, HO_4, HO_6, HB⟩ := hrel
        cases gk with
        | zero => exact absurd HA.out (by simp [dropperref08_ByHalves.l3])
        | succ k4 =>
         have H := HA.out; clear HA; simp only [dropperref08_ByHalves.l3] at H; by_cases c21 : x9_4 < 8; rotate_left
         ·rw [if_neg c21] at H
          have c21b0 : decide (x9_4 < 8) = false := decide_eq_false c21; clear c21; have H' := A_ H; clear H
          go_wp2
          go_roundg k4
          case measure => have := HK1.out; have := HK2.out; have := HJ11.out; have := HK4.out; omega
          case rel => exact ⟨(x6_4), (wrap64 (x8_2 + 1)), eS, H', ⟨by have := HK1.out; have := HK2.out; have := HJ11.out; have := HK4.out; omega⟩, ⟨rU HO_4.out⟩, ⟨rU HO_6.out⟩, ⟨by repeat (first | (with_reducible first | exact HB.out | apply below_alloc | apply pw_below_drewN | apply below_drew1) | exact HB.out)⟩⟩
         rw [if_pos c21] at H; have c21b0 : decide (x9_4 < 8) = true := decide_eq_true c21; clear c21; by_cases c22 : 0 ≤ x9_4; rotate_left
         ·rw [if_neg c22] at H
          exact absurd H (by simp)
         rw [if_pos c22] at H; have c22b0 : decide (0 ≤ x9_4) = true := decide_eq_true c22; clear c22; by_cases c23 : x9_4 < (x6_4.length : Int); rotate_left
         ·rw [if_neg c23] at H
          exact absurd H (by simp)
         rw [if_pos c23] at H; have c23b0 : decide (x9_4 < (x6_4.length : Int)) = true := decide_eq_true c23; clear c23; by_cases c24 : (rd x6_4 x9_4) ≥ 0
         ·rw [if_pos c24] at H
          have c24b0 : decide (0 ≤ (rd x6_4 x9_4)) = true := decide_eq_true c24; clear c24; simp only [Option.some.injEq, Prod.mk.injEq] at H; obtain ⟨rfl, rfl⟩ := H; obtain ⟨Ao25, co25, eo25⟩ := Kd.R_slice HO_6.out; subst eo25; have p110 : 0 ≤ (x9_4 : Int) := oD; have q110 : x9_4 < (x6_4.length : Int) := oD; obtain ⟨ad110, e110, hx110_0⟩ := Kd.at_int (Kd.R_reads' HO_6.out).2.2 x9_4 p110 q110
          cases e110
          replace p110 := eq_true p110; replace q110 := eq_true q110
          go_wp2
          go_ret2
          exact ⟨_, by first | rfl | (simp [errW_none, errW_some] <;> rfl) | (simp [*, errW_none, errW_some] <;> rfl), by first | exact Kd.R_nil _ _ _ _ _ | exact Kd.N_nil _ _ _ _ _ | exact Kd.V_nil _ _ _ _ _ | exact Kd.Q_nil _ _ _ _ _ | exact Kd.S_nil _ _ _ _ _, by repeat (first | (with_reducible first | exact HB.out | apply below_alloc | apply pw_below_drewN | apply below_drew1) | exact HB.out)⟩
         rw [if_neg c24] at H; have c24b0 : decide (0 ≤ (rd x6_4 x9_4)) = false := decide_eq_false c24; clear c24; obtain ⟨y111, hy111⟩ : ∃ y_ : List Int, y_ = (x6_4.set (x9_4 : Int).toNat x8_2) := ⟨_, rfl⟩
         replace H : (dropperref08_ByHalves.l3 k4 l0 t101 y111 x7_1 x8_2 (wrap64 (x9_4 + x7_1))) = some (r1, r2) := by first | (rw [hy111]; with_reducible exact H) | (have H2_ := (Option.bind_some _ _).symm.trans H; rw [hy111]; with_reducible exact H2_) | (have H2_ := (Option.bind_some _ _).symm.trans H; with_reducible exact H2_) | with_reducible exact H | (rw [hy111]; exact H) | exact H
         have Ny111 := A_ hy111; clear hy111; have H' := A_ H; clear H; obtain ⟨Ao27, co27, eo27⟩ := Kd.R_slice HO_6.out; subst eo27; have p110 : 0 ≤ (x9_4 : Int) := oD; have q110 : x9_4 < (x6_4.length : Int) := oD; obtain ⟨ad110, e110, hx110_0⟩ := Kd.at_int (Kd.R_reads' HO_6.out).2.2 x9_4 p110 q110
         cases e110
         replace p110 := eq_true p110; replace q110 := eq_true q110; have p26 : 0 ≤ (x9_4 : Int) := oD; have q26 : (x9_4 : Int) < ((x6_4.length : Int) : Int) := oD
         obtain ⟨go26, co26, eo26, gb26, gl26, cl26, HG26⟩ := Kd.R_form HO_6.out (by omega)
         (first | cases eo26 | (injection eo26 with ea_ en_ ec_; (first | subst ea_ | (injection ea_ with ea_; subst ea_)); subst ec_; clear en_))
         have GB26 := A_ gb26; have GG26 := A_ HG26; clear gb26 gl26 HG26
         (first | simp only [add_plain] at hx110_0 | skip)
         obtain ⟨hx26_0, hf26_0⟩ := Kd.R_celln 0 HO_6.out (x9_4 : Int) p26 q26; replace p26 := eq_true p26; replace q26 := eq_true q26; have HP28 := Kd.R_putg HO_6.out (x9_4 : Int) x8_2
         go_wp2_with (first | ((with_reducible refine gate_store (t := 3) (p := 61) rfl ?_); refine store_event (t := 3) (p := 61) (v := ?vo_w29) (w1 := (wr.setCell ⟨go26, (x9_4 : Int).toNat, none⟩ (.int .i64 x8_2))) ?hg ?ho ?hn ?hr ?_; (case ho => rfl); (case hg => rfl); (case hn => rfl); (case hr => first | (go_simp; done) | (go_simp; rfl)); intro w29 hw; have hg : wr.grownBy w29 (some go26) := (by rw [hw]; exact HP28.2); have hp_ : Kd.R (Kd.int .i64) 3 w29 w.heap.size (fun k_ => some k_ ≠ (.slice (some ad108) t101.length co13 : Value).ownBlock) (.slice (some ⟨go26, 0, none⟩) x6_4.length co27) y111 := (by rw [hw, Ny111.out]; exact HP28.1); clear HP28; have n0_ := A_ (Kd.R_after (v := (.slice (some ⟨go26, 0, none⟩) x6_4.length co27)) (v1 := (.slice (some ⟨go26, 0, none⟩) x6_4.length co27)) (ok := (fun _ => True)) (by (with_reducible repeat (first | apply Kd.R_alloc | apply Kd.R_drewN | apply Kd.R_drew)); exact Kd.R_mono HO_4.out (fun _ hk => ⟨trivial, hk⟩)) hg (.inl rfl)); have n1_ := A_ (hp_); have n2_ := A_ ((by rw [hw]; exact below_set (HB.out) GB26.out : Below w.heap.size w w29)); clear HO_4; clear HO_6; clear HB; have HO_4 := n0_; have HO_6 := n1_; have HB := n2_; clear n0_ n1_ n2_; clear hg hw hp_))
         go_roundg k4
         case measure => have := HK1.out; have := HK2.out; have := HJ11.out; have := HK4.out; omega
         case rel => exact ⟨(y111), (wrap64 (x9_4 + x7_1)), eS, H', ⟨by have := HK1.out; have := HK2.out; have := HJ11.out; have := HK4.out; omega⟩, ⟨by (with_reducible repeat (first | apply Kd.R_alloc | apply Kd.R_drewN | apply Kd.R_drew)); exact Kd.R_mono HO_4.out (fun _ hk => hk.2)⟩, ⟨rU HO_6.out⟩, ⟨by repeat (first | (with_reducible first | exact HB.out | apply below_alloc | apply pw_below_drewN | apply below_drew1) | exact HB.out)⟩⟩
end Go.Proofs.Ythbpibdfookbmaa.G
end
