-- Written by this session's driver (wip/tools/printmore.py) over the kit's print, with hand-written parts.
import Derived.Test.YtciepmpadcpkbaaGBase
import Derived.Test.YtciepmpadcpkbaaGF73
namespace Go.Proofs.Ytciepmpadcpkbaa.G
open Go.RowKit Go.Proofs.YtciepmpadcpkbaaW.PrintWords Go.Proofs.YtciepmpadcpkbaaW.PrintLast Go.Proofs.YtciepmpadcpkbaaW.PrintMore
attribute [local go_sem] max2_int min2_int max_two min_two max_three min_three max_four min_four   -- for this text's walks alone
set_option linter.unusedVariables false
set_option linter.unusedSimpArgs false

/-! ### wire_pairwise: function 62 -/
mutual
def wire_pairwise.j0 : Nat → List Int → List Int → (Int → Int → Option (Int)) → Bool → Option (List Int × Int)
 | 0, _, _, _, _ => none
 | k + 1, x0, x1, x2, x29 => if x29 = true then (some (([] : List Int), 2)) else (wire_pairwise.l0 k x0 x1 x2 ([] : List Int) (x0.length : Int) 0)
def wire_pairwise.l0 : Nat → List Int → List Int → (Int → Int → Option (Int)) → List Int → Int → Int → Option (List Int × Int)
 | 0, _, _, _, _, _, _ => none
 | k + 1, x0, x1, x2, x8, x31, x32 => if x32 < x31 then (if 0 ≤ x32 then (if x32 < (x0.length : Int) then (if x32 < (x1.length : Int) then ((x2 (rd x0 x32) (rd x1 x32)).bind fun t105 => (if x8.length < 17592186044416 then (wire_pairwise.l0 k x0 x1 x2 (x8 ++ [t105]) x31 (wrap64 (x32 + 1))) else (none))) else (none)) else (none)) else (none)) else (some (x8, 0))
end
def wire_pairwise.f (k : Nat) (l0 : List Int) (l1 : List Int) (a2 : (Int → Int → Option (Int))) : Option (List Int × Int) := if (l0.length : Int) = (l1.length : Int) then (if (l0.length : Int) > 30 then (wire_pairwise.j0 k l0 l1 a2 true) else ((wire_are.f k l0).bind fun t101 => (if t101 = true then ((wire_are.f k l1).bind fun t102 => (wire_pairwise.j0 k l0 l1 a2 (!t102))) else (wire_pairwise.j0 k l0 l1 a2 true)))) else (wire_pairwise.j0 k l0 l1 a2 true)
theorem wire_pairwise.mono_l : ∀ k, (∀ y0 y1 y2 y3, LeO (wire_pairwise.j0 k y0 y1 y2 y3) (wire_pairwise.j0 (k + 1) y0 y1 y2 y3)) ∧ (∀ y0 y1 y2 y3 y4 y5, LeO (wire_pairwise.l0 k y0 y1 y2 y3 y4 y5) (wire_pairwise.l0 (k + 1) y0 y1 y2 y3 y4 y5))
 | 0 => ⟨fun _ _ _ _ r h => by simp [wire_pairwise.j0] at h, fun _ _ _ _ _ _ r h => by simp [wire_pairwise.l0] at h⟩
 | k + 1 => by
  obtain ⟨ih0, ih1⟩ := wire_pairwise.mono_l k
  refine ⟨?_, ?_⟩
  ·intro y0 y1 y2 y3
   unfold wire_pairwise.j0
   repeat' first
   | (with_reducible exact ih0 _ _ _ _)
   | (with_reducible exact ih1 _ _ _ _ _ _)
   | (with_reducible exact wire_are.mono _ _)
   | (with_reducible exact LeO.refl _)
   | (with_reducible exact LeO.none _)
   | (with_reducible refine LeO.ite ?_ ?_)
   | (with_reducible refine LeO.bind ?_ (fun _ => ?_))
   | exact ih0 _ _ _ _
   | exact ih1 _ _ _ _ _ _
   | exact wire_are.mono _ _
   | exact LeO.none _
   | refine LeO.ite ?_ ?_
   | refine LeO.bind ?_ (fun _ => ?_)
  ·intro y0 y1 y2 y3 y4 y5
   unfold wire_pairwise.l0
   repeat' first
   | (with_reducible exact ih0 _ _ _ _)
   | (with_reducible exact ih1 _ _ _ _ _ _)
   | (with_reducible exact wire_are.mono _ _)
   | (with_reducible exact LeO.refl _)
   | (with_reducible exact LeO.none _)
   | (with_reducible refine LeO.ite ?_ ?_)
   | (with_reducible refine LeO.bind ?_ (fun _ => ?_))
   | exact ih0 _ _ _ _
   | exact ih1 _ _ _ _ _ _
   | exact wire_are.mono _ _
   | exact LeO.none _
   | refine LeO.ite ?_ ?_
   | refine LeO.bind ?_ (fun _ => ?_)
theorem wire_pairwise.mono : ∀ a0 a1 a2 k, LeO (wire_pairwise.f k a0 a1 a2) (wire_pairwise.f (k + 1) a0 a1 a2) := by
 intro a0 a1 a2 k
 obtain ⟨ih0, ih1⟩ := wire_pairwise.mono_l k
 unfold wire_pairwise.f
 repeat' first
   | (with_reducible exact ih0 _ _ _ _)
   | (with_reducible exact ih1 _ _ _ _ _ _)
   | (with_reducible exact wire_are.mono _ _)
   | (with_reducible exact LeO.refl _)
   | (with_reducible exact LeO.none _)
   | (with_reducible refine LeO.ite ?_ ?_)
   | (with_reducible refine LeO.bind ?_ (fun _ => ?_))
   | exact ih0 _ _ _ _
   | exact ih1 _ _ _ _ _ _
   | exact wire_are.mono _ _
   | exact LeO.none _
   | refine LeO.ite ?_ ?_
   | refine LeO.bind ?_ (fun _ => ?_)
def wire_pairwise.T7 : Bool × List (List Nat × List Nat) := (true, [([], []), ([], []), ([], []), ([], []), ([2, 3], [2, 3]), ([4], [4]), ([], []), ([], []), ([6, 7], [6, 7]), ([8], [8]), ([1, 5, 9], [1, 5, 9]), ([10], [10]), ([0, 11, 10], [0, 11]), ([12, 12, 0, 1, 2, 3, 4, 5, 6, 7, 8, 9, 10, 11, 12], [0, 12])])
def wire_pairwise.B7 : List Nat := [0, 0, 0, 0, 12, 28, 0, 0, 192, 448, 1022, 2046, 4095, 8191]
theorem wire_pairwise.tab7 : rtab .any (opsOf Try.f62 7) = wire_pairwise.T7 := by kernel_rfl
theorem wire_pairwise.bits7 : waitsOk wire_pairwise.T7.2 wire_pairwise.B7 = true := by kernel_rfl
set_option maxHeartbeats 8000000 in
set_option maxRecDepth 100000 in
theorem wire_pairwise.calls (k : Nat) (A0 : Option Addr) (c0 : Nat) (l0 : List Int) (A1 : Option Addr) (c1 : Nat) (l1 : List Int) {g2 : FuncId} {lb2 : Array Value} (hen2 : EntersF Try.prog g2) (a2 : (Int → Int → Option (Int))) (r1 : List Int) (r2 : Int) (w : World) (hr0 : Kd.C (Kd.int .i64) w A0 l0.length l0) (hc0 : l0.length ≤ c0) (hr1 : Kd.C (Kd.int .i64) w A1 l1.length l1) (hc1 : l1.length ≤ c1) (hfn2 : ∀ (z0_ : Int) (z1_ : Int) (q0_ : Int) (W_ : World), Below w.heap.size w W_ → a2 z0_ z1_ = some q0_ → Calls Try.prog g2 (#[.int .i64 z0_, .int .i64 z1_] ++ lb2) W_ fun e w' => e = .returned (.int .i64 q0_) ∧ Below W_.heap.size W_ w') (h : wire_pairwise.f k l0 l1 a2 = some (r1, r2)) :
  Calls Try.prog 62 #[.slice A0 l0.length c0, .slice A1 l1.length c1, .func (.func g2) #[] lb2] w fun e w' => ∃ v0_ : Value, e = .returned (.tuple #[v0_, .int .i64 r2]) ∧ Kd.R (Kd.int .i64) 3 w' w.heap.size (fun _ => True) v0_ r1 ∧ Below w.heap.size w w' := by
 have HR0 := A_ hr0
 have HC0 := A_ hc0
 clear hr0 hc0
 have HR1 := A_ hr1
 have HC1 := A_ hc1
 clear hr1 hc1
 have HFN2 := A_ hfn2
 have HEN2 := A_ hen2
 clear hfn2 hen2
 have HB := A_ (Below.refl w.heap.size w)
 have H : (if (l0.length : Int) = (l1.length : Int) then (if (l0.length : Int) > 30 then (wire_pairwise.j0 k l0 l1 a2 true) else ((wire_are.f k l0).bind fun t101 => (if t101 = true then ((wire_are.f k l1).bind fun t102 => (wire_pairwise.j0 k l0 l1 a2 (!t102))) else (wire_pairwise.j0 k l0 l1 a2 true)))) else (wire_pairwise.j0 k l0 l1 a2 true)) = some (r1, r2) := h
 clear h
 have HC4 := A_ H
 clear H
 go_enter Try.func62, Try.ntmps62
 go_upto_region 1 with (fail)
 go_cut [29] (fun v29 wc => ∃ (kq : Nat) (x29_3 : Bool), v29 = .bool x29_3 ∧ Aside0 (wire_pairwise.j0 kq l0 l1 a2 x29_3 = some (r1, r2)) ∧ Aside0 (kq ≤ k) ∧ Aside0 (Below w.heap.size w wc))
 case first =>
  have H := HC4.out
  clear HC4
  by_cases c5 : (l0.length : Int) = (l1.length : Int)
  rotate_left
  ·rw [if_neg c5] at H
   have c5b0 : ((l0.length : Int) == (l1.length : Int)) = false := beq_eq_false_iff_ne.mpr c5
   have c5b1 : ((l0.length : Int) != (l1.length : Int)) = true := bne_iff_ne.mpr c5
   have c5b2 : (l0.length == l1.length) = false := by first | simpa using c5 | (simp at c5 ⊢; omega)
   (first | rw [c5b0] | (simp only [i64_w, i32_w]; rw [c5b0]) | skip)
   have H' := A_ H
   clear H
   go_wp2
   go_meet
   case rel => exact ⟨_, (true), (by first | rfl | (simp; done) | (simp [*]; done)), H', ⟨by first | omega | exact Nat.le_refl _⟩, ⟨by repeat (first | (with_reducible first | exact HB.out | apply below_alloc | apply pw_below_drewN | apply below_drew1) | exact HB.out)⟩⟩
  rw [if_pos c5] at H
  have c5b0 : ((l0.length : Int) == (l1.length : Int)) = true := beq_iff_eq.mpr c5
  have c5b1 : ((l0.length : Int) != (l1.length : Int)) = false := bne_eq_false_iff_eq.mpr c5
  have c5b2 : (l0.length == l1.length) = true := by first | simpa using c5 | (simp at c5 ⊢; omega)
  clear c5
  (first | rw [c5b0] | (simp only [i64_w, i32_w]; rw [c5b0]) | skip)
  by_cases c6 : (l0.length : Int) > 30
  ·rw [if_pos c6] at H
   have c6b0 : decide (30 < (l0.length : Int)) = true := decide_eq_true c6
   have c6b1 : decide (30 < l0.length) = true := decide_eq_true (by omega)
   clear c6
   have H' := A_ H
   clear H
   go_wp2
   go_meet
   case rel => exact ⟨_, (true), (by first | rfl | (simp; done) | (simp [*]; done)), H', ⟨by first | omega | exact Nat.le_refl _⟩, ⟨by repeat (first | (with_reducible first | exact HB.out | apply below_alloc | apply pw_below_drewN | apply below_drew1) | exact HB.out)⟩⟩
  rw [if_neg c6] at H
  have c6b0 : decide (30 < (l0.length : Int)) = false := decide_eq_false c6
  have c6b1 : decide (30 < l0.length) = false := decide_eq_false (by omega)
  clear c6
  replace H := Option.bind_eq_some_iff.mp H
  obtain ⟨t101, A70, H⟩ := H
  replace H : (if t101 = true then ((wire_are.f k l1).bind fun t102 => (wire_pairwise.j0 k l0 l1 a2 (!t102))) else (wire_pairwise.j0 k l0 l1 a2 true)) = some (r1, r2) := H
  have A7 := A_ A70
  clear A70
  by_cases c8 : t101 = true
  rotate_left
  ·replace c8 := Bool.eq_false_iff.mpr c8
   subst c8
   have H1 : (wire_pairwise.j0 k l0 l1 a2 true) = some (r1, r2) := by rw [if_neg (show ¬ (false = true) by decide)] at H; exact H
   clear H
   have H := H1
   clear H1
   have H' := A_ H
   clear H
   go_wp2_with (first | (go_at_call 73; (with_reducible refine (wire_are.calls k _ _ l0 false _ ?side1 ?side2 A7.out).mono ?_); (case side1 => exact cU (Kd.C_below HR0.out HB.out)); (case side2 => exact HC0.out); rintro e w12 ⟨rfl, hb⟩; have n0_ := A_ (below_step (bW0 HB.out) hb); clear HB; have HB := n0_; clear n0_; (try clear hb); (try clear hb2); (try clear hk); (try clear hi)))
   go_meet
   case rel => exact ⟨_, (true), (by first | rfl | (simp; done) | (simp [*]; done)), H', ⟨by first | omega | exact Nat.le_refl _⟩, ⟨by repeat (first | (with_reducible first | exact HB.out | apply below_alloc | apply pw_below_drewN | apply below_drew1) | exact HB.out)⟩⟩
  subst c8
  have H1 : ((wire_are.f k l1).bind fun t102 => (wire_pairwise.j0 k l0 l1 a2 (!t102))) = some (r1, r2) := by rw [if_pos rfl] at H; exact H
  clear H
  have H := H1
  clear H1
  replace H := Option.bind_eq_some_iff.mp H
  obtain ⟨t102, A90, H⟩ := H
  replace H : (wire_pairwise.j0 k l0 l1 a2 (!t102)) = some (r1, r2) := H
  have A9 := A_ A90
  clear A90
  have H' := A_ H
  clear H
  go_wp2_with (first | (go_at_call 73; (with_reducible refine (wire_are.calls k _ _ l0 true _ ?side1 ?side2 A7.out).mono ?_); (case side1 => exact cU (Kd.C_below HR0.out HB.out)); (case side2 => exact HC0.out); rintro e w10 ⟨rfl, hb⟩; have n0_ := A_ (below_step (bW0 HB.out) hb); clear HB; have HB := n0_; clear n0_; (try clear hb); (try clear hb2); (try clear hk); (try clear hi)) | (go_at_call 73; (with_reducible refine (wire_are.calls k _ _ l1 t102 _ ?side1 ?side2 A9.out).mono ?_); (case side1 => exact cU (Kd.C_below HR1.out HB.out)); (case side2 => exact HC1.out); rintro e w11 ⟨rfl, hb⟩; have n0_ := A_ (below_step (bW0 HB.out) hb); clear HB; have HB := n0_; clear n0_; (try clear hb); (try clear hb2); (try clear hk); (try clear hi)))
  go_meet
  case rel => exact ⟨_, (!t102), (by first | rfl | (simp; done) | (simp [*]; done)), H', ⟨by first | omega | exact Nat.le_refl _⟩, ⟨by repeat (first | (with_reducible first | exact HB.out | apply below_alloc | apply pw_below_drewN | apply below_drew1) | exact HB.out)⟩⟩
 case rest =>
  clear HC4
  try clear c1
  try clear p2
  try clear c5
  try clear c5b0
  try clear c5b1
  try clear c5b2
  try clear c6
  try clear c6b0
  try clear c6b1
  try clear c8
  obtain ⟨kq, x29_3, rfl, HA, HJ3, HB⟩ := hcut
  cases kq with
  | zero => exact absurd HA.out (by simp [wire_pairwise.j0])
  | succ kj3 =>
   have H := HA.out
   clear HA
   simp only [wire_pairwise.j0] at H
   by_cases c13 : x29_3 = true
   ·subst c13
    have H1 : (some (([] : List Int), 2)) = some (r1, r2) := by rw [if_pos rfl] at H; exact H
    clear H
    have H := H1
    clear H1
    simp only [Option.some.injEq, Prod.mk.injEq] at H
    obtain ⟨rfl, rfl⟩ := H
    go_wp2
    go_ret2
    exact ⟨_, by first | rfl | (simp [errW_none, errW_some] <;> rfl) | (simp [*, errW_none, errW_some] <;> rfl), by first | exact Kd.R_nil _ _ _ _ _ | exact Kd.N_nil _ _ _ _ _ | exact Kd.V_nil _ _ _ _ _ | exact Kd.Q_nil _ _ _ _ _ | exact Kd.S_nil _ _ _ _ _, by repeat (first | (with_reducible first | exact HB.out | apply below_alloc | apply pw_below_drewN | apply below_drew1) | exact HB.out)⟩
   replace c13 := Bool.eq_false_iff.mpr c13
   subst c13
   have H1 : (wire_pairwise.l0 kj3 l0 l1 a2 ([] : List Int) (l0.length : Int) 0) = some (r1, r2) := by rw [if_neg (show ¬ (false = true) by decide)] at H; exact H
   clear H
   have H := H1
   clear H1
   have H' := A_ H
   clear H
   go_wp2
   go_loopg [8, 32] kj3 (fun kq v8 v32 w' => ∃ (x8_2 : List Int) (x32_2 : Int), v32 = .int .i64 x32_2 ∧ Aside0 (wire_pairwise.l0 kq l0 l1 a2 x8_2 (l0.length : Int) x32_2 = some (r1, r2)) ∧ Aside0 (kq ≤ kj3) ∧ Aside0 (Kd.R (Kd.int .i64) 3 w' w.heap.size (fun _ => True) v8 x8_2) ∧ Aside0 (Below w.heap.size w w'))
   case atStart => exact ⟨(([] : List Int)), (0), (by first | rfl | (simp; done) | (simp [*]; done)), H', ⟨Nat.le_refl _⟩, ⟨by first | exact Kd.R_nil _ _ _ _ _ | exact Kd.N_nil _ _ _ _ _ | exact Kd.V_nil _ _ _ _ _ | exact Kd.Q_nil _ _ _ _ _ | exact Kd.S_nil _ _ _ _ _⟩, ⟨by repeat (first | (with_reducible first | exact HB.out | apply below_alloc | apply pw_below_drewN | apply below_drew1) | exact HB.out)⟩⟩
   case round =>
    clear H'
    try clear c1
    try clear p2
    try clear c5
    try clear c5b0
    try clear c5b1
    try clear c5b2
    try clear c6
    try clear c6b0
    try clear c6b1
    try clear c8
    try clear c13
    try clear p2
    obtain ⟨x8_2, x32_2, rfl, HA, HK2, HO_8, HB⟩ := hrel
    cases gk with
    | zero => exact absurd HA.out (by simp [wire_pairwise.l0])
    | succ k2 =>
     have H := HA.out
     clear HA
     simp only [wire_pairwise.l0] at H
     by_cases c14 : x32_2 < (l0.length : Int)
     rotate_left
     ·rw [if_neg c14] at H
      have c14b0 : decide (x32_2 < (l0.length : Int)) = false := decide_eq_false c14
      clear c14
      simp only [Option.some.injEq, Prod.mk.injEq] at H
      obtain ⟨rfl, rfl⟩ := H
      go_wp2
      go_ret2
      exact ⟨_, by first | rfl | (simp [errW_none, errW_some] <;> rfl) | (simp [*, errW_none, errW_some] <;> rfl), by (with_reducible repeat (first | apply Kd.R_alloc | apply Kd.R_drewN | apply Kd.R_drew)); exact HO_8.out, by repeat (first | (with_reducible first | exact HB.out | apply below_alloc | apply pw_below_drewN | apply below_drew1) | exact HB.out)⟩

     rw [if_pos c14] at H
     have c14b0 : decide (x32_2 < (l0.length : Int)) = true := decide_eq_true c14
     clear c14
     by_cases c15 : 0 ≤ x32_2
     rotate_left
     ·rw [if_neg c15] at H
      exact absurd H (by simp)
     rw [if_pos c15] at H
     have c15b0 : decide (0 ≤ x32_2) = true := decide_eq_true c15
     clear c15
     by_cases c16 : x32_2 < (l0.length : Int)
     rotate_left
     ·rw [if_neg c16] at H
      exact absurd H (by simp)
     rw [if_pos c16] at H
     have c16b0 : decide (x32_2 < (l0.length : Int)) = true := decide_eq_true c16
     clear c16
     by_cases c17 : x32_2 < (l1.length : Int)
     rotate_left
     ·rw [if_neg c17] at H
      exact absurd H (by simp)
     rw [if_pos c17] at H
     have c17b0 : decide (x32_2 < (l1.length : Int)) = true := decide_eq_true c17
     clear c17
     replace H := Option.bind_eq_some_iff.mp H
     obtain ⟨t105, A180, H⟩ := H
     replace H : (if x8_2.length < 17592186044416 then (wire_pairwise.l0 k2 l0 l1 a2 (x8_2 ++ [t105]) (l0.length : Int) (wrap64 (x32_2 + 1))) else (none)) = some (r1, r2) := H
     have A18 := A_ A180
     clear A180
     by_cases c19 : x8_2.length < 17592186044416
     rotate_left
     ·rw [if_neg c19] at H
      exact absurd H (by simp)
     rw [if_pos c19] at H
     have LMc19 := A_ c19
     clear c19
     obtain ⟨y106, hy106⟩ : ∃ y_ : List Int, y_ = (x8_2 ++ [t105]) := ⟨_, rfl⟩
     replace H : (wire_pairwise.l0 k2 l0 l1 a2 y106 (l0.length : Int) (wrap64 (x32_2 + 1))) = some (r1, r2) := by first | (rw [hy106]; with_reducible exact H) | (have H2_ := (Option.bind_some _ _).symm.trans H; rw [hy106]; with_reducible exact H2_) | (have H2_ := (Option.bind_some _ _).symm.trans H; with_reducible exact H2_) | with_reducible exact H | (rw [hy106]; exact H) | exact H
     have Ny106 := A_ hy106
     clear hy106
     have H' := A_ H
     clear H
     try go_wp2
     have n0_ := A_ (Kd.R_drew HO_8.out)
     have n1_ := A_ (below_drew1 HB.out)
     clear HO_8
     clear HB
     have HO_8 := n0_
     have HB := n1_
     clear n0_ n1_
     have p103 : 0 ≤ (x32_2 : Int) := of_decide_eq_true (by first | (with_reducible assumption) | assumption)
     have q103 : x32_2 < (l0.length : Int) := of_decide_eq_true (by first | (with_reducible assumption) | assumption)
     obtain ⟨ad103, e103, hx103_0⟩ := Kd.at_int HR0.out x32_2 p103 q103
     have hw103_0 := hx103_0
     cases e103
     replace hx103_0 := (HB.out.cell (World.block_lt_of_cell? w _ hx103_0)).trans hx103_0
     replace p103 := eq_true p103
     replace q103 := eq_true q103
     have p104 : 0 ≤ (x32_2 : Int) := of_decide_eq_true (by first | (with_reducible assumption) | assumption)
     have q104 : x32_2 < (l1.length : Int) := of_decide_eq_true (by first | (with_reducible assumption) | assumption)
     obtain ⟨ad104, e104, hx104_0⟩ := Kd.at_int HR1.out x32_2 p104 q104
     have hw104_0 := hx104_0
     cases e104
     replace hx104_0 := (HB.out.cell (World.block_lt_of_cell? w _ hx104_0)).trans hx104_0
     replace p104 := eq_true p104
     replace q104 := eq_true q104
     refine start_ (n := 14) (S := fun w' => w'.cell? (ad103.add (x32_2).toNat) = some (.int .i64 (rd l0 x32_2)) ∧ w'.cell? (ad104.add (x32_2).toNat) = some (.int .i64 (rd l1 x32_2))) (ds := []) (mkB 14 0) (by kernel_rfl) rfl rfl ⟨(pw_cell_below HB.out hw103_0), (pw_cell_below HB.out hw104_0)⟩ (fun hHeld => ?_); refine with_tabW wire_pairwise.tab7 wire_pairwise.bits7 (fun HT_ HW_ => ?_)
     generalize wr.drew = w20 at HO_8 HB hx103_0 hx104_0 hHeld ⊢
     refine pr_ 0 (some 35) (mkB 14 1) HT_ ?_
     refine pr_ 1 (some 36) (mkB 14 3) HT_ ?_
     refine pr_ 2 (some 37) (mkB 14 7) HT_ ?_
     refine pr_ 3 (some 38) (mkB 14 15) HT_ ?_
     refine pr_ 4 (some 39) (mkB 14 31) HT_ ?_
     refine pr_ 6 (some 41) (mkB 14 95) HT_ ?_
     refine pr_ 7 (some 42) (mkB 14 223) HT_ ?_
     refine pr_ 8 (some 43) (mkB 14 479) HT_ ?_
     refine take_ (i := 5) (N := some 40) (v := ?_) (a' := ?_) (mkB 14 511) rfl rfl (take_ofW HT_.out HW_.out (by kernel_rfl)) (fun _ _ _ h => h) (Or.inl ⟨by rfl, ?_⟩) hHeld ?_ ?_
     rotate_left
     ·rintro w' ⟨s0, s1⟩
      go_simp
      with_reducible rfl
     rotate_left
     ·simp only [Act.put, List.setIfInBounds_toArray, List.set_cons_zero, List.set_cons_succ, i64_w, i32_w]
      rfl
     refine take_ (i := 9) (N := some 44) (v := ?_) (a' := ?_) (mkB 14 1023) rfl rfl (take_ofW HT_.out HW_.out (by kernel_rfl)) (fun _ _ _ h => h) (Or.inl ⟨by rfl, ?_⟩) hHeld ?_ ?_
     rotate_left
     ·rintro w' ⟨s0, s1⟩
      go_simp
      with_reducible rfl
     rotate_left
     ·simp only [Act.put, List.setIfInBounds_toArray, List.set_cons_zero, List.set_cons_succ, i64_w, i32_w]
      rfl
     refine one_ (i := 10) (N := some 45) (mkB 14 2047) rfl rfl (one_of HT_.out (by kernel_rfl)) (by decide) (fun K hK => ?_)
     refine goesV_ HEN2.out (lb := lb2) #[.int .i64 (rd l0 x32_2), .int .i64 (rd l1 x32_2)] (by rfl) rfl rfl rfl (by (try simp only [List.map_toArray, List.map_cons, List.map_nil]); first | done | rfl | (simp only [List.length_drop, List.length_take]; rfl)) ?_
     with_reducible refine (HFN2.out (rd l0 x32_2) (rd l1 x32_2) t105 _ (bW0 HB.out) A18.out).mono ?_
     rintro e w21 ⟨rfl, hb⟩
     refine ⟨_, rfl, ?_⟩
     have n0_ := A_ (Kd.R_below (rU HO_8.out) hb)
     have n1_ := A_ (below_step (bW0 HB.out) hb)
     clear HO_8
     clear HB
     have HO_8 := n0_
     have HB := n1_
     clear n0_ n1_
     (try clear hb)
     (try clear hb2)
     (try clear hk)
     (try clear hi)
     refine hK.out _ _ ⟨(pw_cell_below HB.out hw103_0), (pw_cell_below HB.out hw104_0)⟩ (fun hHeld => ?_)
     clear hK K
     refine norm_ (a' := ?_) ?_ ?_
     rotate_left
     ·show Act.put _ (some 45) _ = _
      simp only [Act.put, List.setIfInBounds_toArray, List.set_cons_zero, List.set_cons_succ, i64_w, i32_w]
      rfl
     refine one_ (i := 11) (N := some 46) (mkB 14 4095) rfl rfl (one_of HT_.out (by kernel_rfl)) (by decide) (fun K hK => ?_)
     refine value_ (w1 := ?_) (v := ?_) (by rfl) rfl ?_ ?_
     rotate_left 2
     ·go_simp
      constructor
      ·rfl
      ·rfl
     refine hK.out _ _ ⟨(World.cell?_alloc_lt _ _ _ (World.block_lt_of_cell? _ _ ((pw_cell_below HB.out hw103_0)))).trans ((pw_cell_below HB.out hw103_0)), (World.cell?_alloc_lt _ _ _ (World.block_lt_of_cell? _ _ ((pw_cell_below HB.out hw104_0)))).trans ((pw_cell_below HB.out hw104_0))⟩ (fun hHeld => ?_)
     clear hK K
     refine norm_ (a' := ?_) ?_ ?_
     rotate_left
     ·show Act.put _ (some 46) _ = _
      simp only [Act.put, List.setIfInBounds_toArray, List.set_cons_zero, List.set_cons_succ, i64_w, i32_w]
      rfl
     refine one_ (i := 12) (N := some 47) (mkB 14 8191) rfl rfl (one_of HT_.out (by kernel_rfl)) (by decide) (fun K hK => ?_)
     refine Kd.R_append_step (Kd.int .i64) (w0 := w) w.heap.size (by rfl) (.tmp 35) (.tmp 46) 34 3 (.int .i64 0) 8 rfl Try.underlying34 info3 rfl (by decide) (by omega) u8 x8_2 t105 [.int .i64 t105] (fun _ => True) (fun _ => False) rfl rfl ?aP (fun _ hk => hk.elim) ?aF ?aO ?aB ?aS ?aL ?_
     (case aP => exact rfl)
     (case aB => exact (bW0 HB.out))
     (case aF => exact (fun _ _ => trivial))
     (case aO => exact (rU HO_8.out))
     (case aS => exact (below_size (bW0 HB.out)))
     (case aL => have := LMc19.out; omega)
     intro v107 w22 ho hb hg hat
     rw [← Ny106.out] at ho
     have n0_ := A_ (hb)
     have n1_ := A_ (ho)
     clear HB
     clear HO_8
     have HB := n0_
     have HO108 := n1_
     clear n0_ n1_
     clear ho hb hg hat
     refine hK.out _ _ ⟨(pw_cell_below HB.out hw103_0), (pw_cell_below HB.out hw104_0)⟩ (fun hHeld => ?_)
     clear hK K
     refine norm_ (a' := ?_) ?_ ?_
     rotate_left
     ·show Act.put _ (some 47) _ = _
      simp only [Act.put, List.setIfInBounds_toArray, List.set_cons_zero, List.set_cons_succ, i64_w, i32_w]
      rfl
     refine pr_ 13 (some 8) (mkB 14 16383) HT_ ?_
     refine done_ (done_of HT_.out (by kernel_rfl)) ?_
     try go_wp2
     go_roundg k2
     case measure => have := HJ3.out; have := HK2.out; omega
     case rel => exact ⟨(y106), (wrap64 (x32_2 + 1)), (by first | rfl | (simp; done) | (simp [*]; done)), H', ⟨by have := HJ3.out; have := HK2.out; omega⟩, ⟨rU HO108.out⟩, ⟨by repeat (first | (with_reducible first | exact HB.out | apply below_alloc | apply pw_below_drewN | apply below_drew1) | exact HB.out)⟩⟩
end Go.Proofs.Ytciepmpadcpkbaa.G
