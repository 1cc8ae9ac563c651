-- Written by this session's driver (wip/tools/printmore.py) over the kit's print, with hand-written parts.
import Derived.Test.YtciepmpadcpkbaaGBase
import Derived.Test.YtciepmpadcpkbaaGF71
import Derived.Test.YtciepmpadcpkbaaGF16
namespace Go.Proofs.Ytciepmpadcpkbaa.G
open Go.RowKit Go.Proofs.YtciepmpadcpkbaaW.PrintWords Go.Proofs.YtciepmpadcpkbaaW.PrintLast Go.Proofs.YtciepmpadcpkbaaW.PrintMore
attribute [local go_sem] max2_int min2_int max_two min_two max_three min_three max_four min_four   -- for this text's walks alone
set_option linter.unusedVariables false
set_option linter.unusedSimpArgs false

/-! ### dropperref02_Lowest: function 41 -/
mutual
def dropperref02_Lowest.l0 : Nat → List (S72) → Int → Int → List Int → Int → Option (List Int × Int)
 | 0, _, _, _, _, _ => none
 | k + 1, x0, x1, x2, x11, x12 => if x12 < (x0.length : Int) then (if 0 ≤ x12 then (dropperref02_Lowest.l1 k x0 x1 x2 x11 x12 ((rd_T72 x0 x12).f1) 0) else (none)) else (some (x11, 0))
def dropperref02_Lowest.l1 : Nat → List (S72) → Int → Int → List Int → Int → Int → Int → Option (List Int × Int)
 | 0, _, _, _, _, _, _, _ => none
 | k + 1, x0, x1, x2, x11, x12, x13, x14 => if x14 < (x0.length : Int) then (if 0 ≤ x14 then ((dropperref02_steps.f k x0 x1 x2 x12 x14).bind fun t106 => (dropperref02_Lowest.l1 k x0 x1 x2 x11 x12 (mx x13 (wrap64 (((rd_T72 x0 x14).f1) - t106))) (wrap64 (x14 + 1)))) else (none)) else (if x11.length < 17592186044416 then (dropperref02_Lowest.l0 k x0 x1 x2 (x11 ++ [x13]) (wrap64 (x12 + 1))) else (none))
end
def dropperref02_Lowest.f (k : Nat) (l0 : List (S72)) (a1 : Int) (a2 : Int) : Option (List Int × Int) := (dropperref02_Clash.f k l0 a1 a2).bind fun bt101 => (if bt101.2.2 = 5 then (dropperref02_Lowest.l0 k l0 a1 a2 ([] : List Int) 0) else (if bt101.2.2 = 0 then (some (([] : List Int), 5)) else (some (([] : List Int), bt101.2.2))))
theorem dropperref02_Lowest.mono_l : ∀ k, (∀ y0 y1 y2 y3 y4, LeO (dropperref02_Lowest.l0 k y0 y1 y2 y3 y4) (dropperref02_Lowest.l0 (k + 1) y0 y1 y2 y3 y4)) ∧ (∀ y0 y1 y2 y3 y4 y5 y6, LeO (dropperref02_Lowest.l1 k y0 y1 y2 y3 y4 y5 y6) (dropperref02_Lowest.l1 (k + 1) y0 y1 y2 y3 y4 y5 y6))
 | 0 => ⟨fun _ _ _ _ _ r h => by simp [dropperref02_Lowest.l0] at h, fun _ _ _ _ _ _ _ r h => by simp [dropperref02_Lowest.l1] at h⟩
 | k + 1 => by
  obtain ⟨ih0, ih1⟩ := dropperref02_Lowest.mono_l k
  refine ⟨?_, ?_⟩
  ·intro y0 y1 y2 y3 y4
   unfold dropperref02_Lowest.l0
   repeat' first
   | (with_reducible exact ih0 _ _ _ _ _)
   | (with_reducible exact ih1 _ _ _ _ _ _ _)
   | (with_reducible exact dropperref02_Clash.mono _ _ _ _)
   | (with_reducible exact dropperref02_steps.mono _ _ _ _ _ _)
   | (with_reducible exact LeO.refl _)
   | (with_reducible exact LeO.none _)
   | (with_reducible refine LeO.ite ?_ ?_)
   | (with_reducible refine LeO.bind ?_ (fun _ => ?_))
   | exact ih0 _ _ _ _ _
   | exact ih1 _ _ _ _ _ _ _
   | exact dropperref02_Clash.mono _ _ _ _
   | exact dropperref02_steps.mono _ _ _ _ _ _
   | exact LeO.none _
   | refine LeO.ite ?_ ?_
   | refine LeO.bind ?_ (fun _ => ?_)
  ·intro y0 y1 y2 y3 y4 y5 y6
   unfold dropperref02_Lowest.l1
   repeat' first
   | (with_reducible exact ih0 _ _ _ _ _)
   | (with_reducible exact ih1 _ _ _ _ _ _ _)
   | (with_reducible exact dropperref02_Clash.mono _ _ _ _)
   | (with_reducible exact dropperref02_steps.mono _ _ _ _ _ _)
   | (with_reducible exact LeO.refl _)
   | (with_reducible exact LeO.none _)
   | (with_reducible refine LeO.ite ?_ ?_)
   | (with_reducible refine LeO.bind ?_ (fun _ => ?_))
   | exact ih0 _ _ _ _ _
   | exact ih1 _ _ _ _ _ _ _
   | exact dropperref02_Clash.mono _ _ _ _
   | exact dropperref02_steps.mono _ _ _ _ _ _
   | exact LeO.none _
   | refine LeO.ite ?_ ?_
   | refine LeO.bind ?_ (fun _ => ?_)
theorem dropperref02_Lowest.mono : ∀ a0 a1 a2 k, LeO (dropperref02_Lowest.f k a0 a1 a2) (dropperref02_Lowest.f (k + 1) a0 a1 a2) := by
 intro a0 a1 a2 k
 obtain ⟨ih0, ih1⟩ := dropperref02_Lowest.mono_l k
 unfold dropperref02_Lowest.f
 repeat' first
   | (with_reducible exact ih0 _ _ _ _ _)
   | (with_reducible exact ih1 _ _ _ _ _ _ _)
   | (with_reducible exact dropperref02_Clash.mono _ _ _ _)
   | (with_reducible exact dropperref02_steps.mono _ _ _ _ _ _)
   | (with_reducible exact LeO.refl _)
   | (with_reducible exact LeO.none _)
   | (with_reducible refine LeO.ite ?_ ?_)
   | (with_reducible refine LeO.bind ?_ (fun _ => ?_))
   | exact ih0 _ _ _ _ _
   | exact ih1 _ _ _ _ _ _ _
   | exact dropperref02_Clash.mono _ _ _ _
   | exact dropperref02_steps.mono _ _ _ _ _ _
   | exact LeO.none _
   | refine LeO.ite ?_ ?_
   | refine LeO.bind ?_ (fun _ => ?_)
def dropperref02_Lowest.T15 : Bool × List (List Nat × List Nat) := (true, [([], []), ([], []), ([], []), ([1, 2], [1, 2]), ([3], [3]), ([4], [4]), ([], []), ([], []), ([], []), ([], []), ([], []), ([6, 7, 8, 9, 10], [6, 7, 8, 9, 10]), ([5, 11], [5, 11]), ([0, 12], [0, 12]), ([13, 11, 0, 1, 2, 3, 4, 5, 6, 7, 8, 9, 10, 11, 12, 13], [0, 13])])
def dropperref02_Lowest.B15 : List Nat := [0, 0, 0, 6, 14, 30, 0, 0, 0, 0, 0, 1984, 4094, 8191, 16383]
theorem dropperref02_Lowest.tab15 : rtab .any (opsOf Try.f41 15) = dropperref02_Lowest.T15 := by kernel_rfl
theorem dropperref02_Lowest.bits15 : waitsOk dropperref02_Lowest.T15.2 dropperref02_Lowest.B15 = true := by kernel_rfl
set_option maxHeartbeats 8000000 in
set_option maxRecDepth 100000 in
theorem dropperref02_Lowest.calls (k : Nat) (A0 : Option Addr) (c0 : Nat) (l0 : List (S72)) (a1 : Int) (a2 : Int) (r1 : List Int) (r2 : Int) (w : World) (hr0 : Kd.C k72 w A0 l0.length l0) (hc0 : l0.length ≤ c0) (h : dropperref02_Lowest.f k l0 a1 a2 = some (r1, r2)) :
  Calls Try.prog 41 #[.slice A0 l0.length c0, .int .i64 a1, .int .i64 a2] w fun e w' => ∃ v0_ : Value, e = .returned (.tuple #[v0_, .int .i64 r2]) ∧ Kd.R (Kd.int .i64) 3 w' w.heap.size (fun _ => True) v0_ r1 ∧ Below w.heap.size w w' := by
 have HR0 := A_ hr0
 have HC0 := A_ hc0
 clear hr0 hc0
 have HB := A_ (Below.refl w.heap.size w)
 have H : ((dropperref02_Clash.f k l0 a1 a2).bind fun bt101 => (if bt101.2.2 = 5 then (dropperref02_Lowest.l0 k l0 a1 a2 ([] : List Int) 0) else (if bt101.2.2 = 0 then (some (([] : List Int), 5)) else (some (([] : List Int), bt101.2.2))))) = some (r1, r2) := h
 clear h
 replace H := Option.bind_eq_some_iff.mp H
 obtain ⟨⟨t101, t102, t103⟩, A40, H⟩ := H
 replace H : (if t103 = 5 then (dropperref02_Lowest.l0 k l0 a1 a2 ([] : List Int) 0) else (if t103 = 0 then (some (([] : List Int), 5)) else (some (([] : List Int), t103)))) = some (r1, r2) := H
 have A4 := A_ A40
 clear A40
 by_cases c5 : t103 = 5
 rotate_left
 ·rw [if_neg c5] at H
  have c5b0 : (t103 == 5) = false := beq_eq_false_iff_ne.mpr c5
  have c5b1 : (t103 != 5) = true := bne_iff_ne.mpr c5
  by_cases c17 : t103 = 0
  rotate_left
  ·rw [if_neg c17] at H
   have c17b0 : (t103 == 0) = false := beq_eq_false_iff_ne.mpr c17
   have c17b1 : (t103 != 0) = true := bne_iff_ne.mpr c17
   simp only [Option.some.injEq, Prod.mk.injEq] at H
   obtain ⟨rfl, rfl⟩ := H
   go_enter Try.func41, Try.ntmps41
   go_wp2_with (first | ((with_reducible refine gate_callee (f := 16) rfl ?_); refine goesL_ (some 19) rfl rfl Try.func16 (by kernel_rfl) rfl #[.slice A0 l0.length c0, .int .i64 a1, .int .i64 a2] rfl (by (try simp only [List.map_toArray, List.map_cons, List.map_nil]); first | done | rfl | (simp only [List.length_drop, List.length_take]; rfl)) ?_; (with_reducible refine (dropperref02_Clash.calls k _ _ l0 a1 a2 t101 t102 t103 _ ?side1 ?side2 A4.out).mono ?_); (case side1 => exact cU HR0.out); (case side2 => exact HC0.out); rintro e w19 ⟨rfl, hb⟩; refine ⟨_, rfl, ?_⟩; have n0_ := A_ (below_step (bW0 HB.out) hb); clear HB; have HB := n0_; clear n0_; (try clear hb); (try clear hb2); (try clear hk); (try clear hi)))
   go_ret2
   exact ⟨_, by first | rfl | (simp [errW_none, errW_some] <;> rfl) | (simp [*, errW_none, errW_some] <;> rfl), by first | exact Kd.R_nil _ _ _ _ _ | exact Kd.N_nil _ _ _ _ _ | exact Kd.V_nil _ _ _ _ _ | exact Kd.Q_nil _ _ _ _ _ | exact Kd.S_nil _ _ _ _ _, by repeat (first | (with_reducible first | exact HB.out | apply below_alloc | apply pw_below_drewN | apply below_drew1) | exact HB.out)⟩

  rw [if_pos c17] at H
  have c17b0 : (t103 == 0) = true := beq_iff_eq.mpr c17
  have c17b1 : (t103 != 0) = false := bne_eq_false_iff_eq.mpr c17
  clear c17
  simp only [Option.some.injEq, Prod.mk.injEq] at H
  obtain ⟨rfl, rfl⟩ := H
  go_enter Try.func41, Try.ntmps41
  go_wp2_with (first | ((with_reducible refine gate_callee (f := 16) rfl ?_); refine goesL_ (some 19) rfl rfl Try.func16 (by kernel_rfl) rfl #[.slice A0 l0.length c0, .int .i64 a1, .int .i64 a2] rfl (by (try simp only [List.map_toArray, List.map_cons, List.map_nil]); first | done | rfl | (simp only [List.length_drop, List.length_take]; rfl)) ?_; (with_reducible refine (dropperref02_Clash.calls k _ _ l0 a1 a2 t101 t102 t103 _ ?side1 ?side2 A4.out).mono ?_); (case side1 => exact cU HR0.out); (case side2 => exact HC0.out); rintro e w18 ⟨rfl, hb⟩; refine ⟨_, rfl, ?_⟩; have n0_ := A_ (below_step (bW0 HB.out) hb); clear HB; have HB := n0_; clear n0_; (try clear hb); (try clear hb2); (try clear hk); (try clear hi)))
  go_ret2
  exact ⟨_, by first | rfl | (simp [errW_none, errW_some] <;> rfl) | (simp [*, errW_none, errW_some] <;> rfl), by first | exact Kd.R_nil _ _ _ _ _ | exact Kd.N_nil _ _ _ _ _ | exact Kd.V_nil _ _ _ _ _ | exact Kd.Q_nil _ _ _ _ _ | exact Kd.S_nil _ _ _ _ _, by repeat (first | (with_reducible first | exact HB.out | apply below_alloc | apply pw_below_drewN | apply below_drew1) | exact HB.out)⟩
 rw [if_pos c5] at H
 have c5b0 : (t103 == 5) = true := beq_iff_eq.mpr c5
 have c5b1 : (t103 != 5) = false := bne_eq_false_iff_eq.mpr c5
 clear c5
 have H' := A_ H
 clear H
 go_enter Try.func41, Try.ntmps41
 go_wp2_with (first | ((with_reducible refine gate_callee (f := 16) rfl ?_); refine goesL_ (some 19) rfl rfl Try.func16 (by kernel_rfl) rfl #[.slice A0 l0.length c0, .int .i64 a1, .int .i64 a2] rfl (by (try simp only [List.map_toArray, List.map_cons, List.map_nil]); first | done | rfl | (simp only [List.length_drop, List.length_take]; rfl)) ?_; (with_reducible refine (dropperref02_Clash.calls k _ _ l0 a1 a2 t101 t102 t103 _ ?side1 ?side2 A4.out).mono ?_); (case side1 => exact cU HR0.out); (case side2 => exact HC0.out); rintro e w6 ⟨rfl, hb⟩; refine ⟨_, rfl, ?_⟩; have n0_ := A_ (below_step (bW0 HB.out) hb); clear HB; have HB := n0_; clear n0_; (try clear hb); (try clear hb2); (try clear hk); (try clear hi)))
 go_loopg [11, 12] k (fun kq v11 v12 w' => ∃ (x11_1 : List Int) (x12_1 : Int), v12 = .int .i64 x12_1 ∧ Aside0 (dropperref02_Lowest.l0 kq l0 a1 a2 x11_1 x12_1 = some (r1, r2)) ∧ Aside0 (kq ≤ k) ∧ Aside0 (Kd.R (Kd.int .i64) 3 w' w.heap.size (fun _ => True) v11 x11_1) ∧ Aside0 (Below w.heap.size w w'))
 case atStart => exact ⟨(([] : List Int)), (0), (by first | rfl | (simp; done) | (simp [*]; done)), H', ⟨Nat.le_refl _⟩, ⟨by first | exact Kd.R_nil _ _ _ _ _ | exact Kd.N_nil _ _ _ _ _ | exact Kd.V_nil _ _ _ _ _ | exact Kd.Q_nil _ _ _ _ _ | exact Kd.S_nil _ _ _ _ _⟩, ⟨by repeat (first | (with_reducible first | exact HB.out | apply below_alloc | apply pw_below_drewN | apply below_drew1) | exact HB.out)⟩⟩
 case round =>
  clear H'
  try clear c1
  try clear p2
  try clear c4
  try clear c5
  try clear c5b0
  try clear c5b1
  obtain ⟨x11_1, x12_1, rfl, HA, HK1, HO_11, HB⟩ := hrel
  cases gk with
  | zero => exact absurd HA.out (by simp [dropperref02_Lowest.l0])
  | succ k1 =>
   have H := HA.out
   clear HA
   simp only [dropperref02_Lowest.l0] at H
   by_cases c7 : x12_1 < (l0.length : Int)
   rotate_left
   ·rw [if_neg c7] at H
    have c7b0 : decide (x12_1 < (l0.length : Int)) = false := decide_eq_false c7
    clear c7
    simp only [Option.some.injEq, Prod.mk.injEq] at H
    obtain ⟨rfl, rfl⟩ := H
    go_wp2
    go_ret2
    exact ⟨_, by first | rfl | (simp [errW_none, errW_some] <;> rfl) | (simp [*, errW_none, errW_some] <;> rfl), by (with_reducible repeat (first | apply Kd.R_alloc | apply Kd.R_drewN | apply Kd.R_drew)); exact HO_11.out, by repeat (first | (with_reducible first | exact HB.out | apply below_alloc | apply pw_below_drewN | apply below_drew1) | exact HB.out)⟩
   rw [if_pos c7] at H
   have c7b0 : decide (x12_1 < (l0.length : Int)) = true := decide_eq_true c7
   clear c7
   by_cases c8 : 0 ≤ x12_1
   rotate_left
   ·rw [if_neg c8] at H
    exact absurd H (by simp)
   rw [if_pos c8] at H
   have c8b0 : decide (0 ≤ x12_1) = true := decide_eq_true c8
   clear c8
   have H' := A_ H
   clear H
   have p104 : 0 ≤ (x12_1 : Int) := of_decide_eq_true (by first | (with_reducible assumption) | assumption)
   have q104 : x12_1 < (l0.length : Int) := of_decide_eq_true (by first | (with_reducible assumption) | assumption)
   obtain ⟨ad104, e104, hx104_0, hx104_1, hx104_2⟩ := at_T72 HR0.out x12_1 p104 q104
   cases e104
   replace hx104_0 := (HB.out.cell (World.block_lt_of_cell? w _ hx104_0)).trans hx104_0
   replace hx104_1 := (HB.out.cell (World.block_lt_of_cell? w _ hx104_1)).trans hx104_1
   replace hx104_2 := (HB.out.cell (World.block_lt_of_cell? w _ hx104_2)).trans hx104_2
   replace p104 := eq_true p104
   replace q104 := eq_true q104
   go_wp2
   go_loopg [13, 14] k1 (fun kq v13 v14 w' => ∃ (x13_2 : Int) (x14_2 : Int), v13 = .int .i64 x13_2 ∧ v14 = .int .i64 x14_2 ∧ Aside0 (dropperref02_Lowest.l1 kq l0 a1 a2 x11_1 x12_1 x13_2 x14_2 = some (r1, r2)) ∧ Aside0 (kq ≤ k1) ∧ Aside0 (Kd.R (Kd.int .i64) 3 w' w.heap.size (fun _ => True) u11 x11_1) ∧ Aside0 (Below w.heap.size w w'))
   case atStart => exact ⟨((rd_T72 l0 x12_1).f1), (0), (by first | rfl | (simp; done) | (simp [*]; done)), (by first | rfl | (simp; done) | (simp [*]; done)), H', ⟨Nat.le_refl _⟩, ⟨rU HO_11.out⟩, ⟨by repeat (first | (with_reducible first | exact HB.out | apply below_alloc | apply pw_below_drewN | apply below_drew1) | exact HB.out)⟩⟩
   case round =>
    clear H'
    try clear c1
    try clear p1
    try clear q1
    try clear hx1
    try clear p2
    try clear c4
    try clear c5
    try clear c5b0
    try clear c5b1
    try clear c7
    try clear c7b0
    try clear c8
    try clear c8b0
    try clear hx104_0
    try clear hx104_1
    try clear hx104_2
    try clear p104
    try clear p2
    try clear q104
    obtain ⟨x13_2, x14_2, rfl, rfl, HA, HK2, HO_11, HB⟩ := hrel
    cases gk with
    | zero => exact absurd HA.out (by simp [dropperref02_Lowest.l1])
    | succ k2 =>
     have H := HA.out
     clear HA
     simp only [dropperref02_Lowest.l1] at H
     by_cases c9 : x14_2 < (l0.length : Int)
     rotate_left
     ·rw [if_neg c9] at H
      have c9b0 : decide (x14_2 < (l0.length : Int)) = false := decide_eq_false c9
      clear c9
      by_cases c15 : x11_1.length < 17592186044416
      rotate_left
      ·rw [if_neg c15] at H
       exact absurd H (by simp)
      rw [if_pos c15] at H
      have LMc15 := A_ c15
      clear c15
      obtain ⟨y107, hy107⟩ : ∃ y_ : List Int, y_ = (x11_1 ++ [x13_2]) := ⟨_, rfl⟩
      replace H : (dropperref02_Lowest.l0 k2 l0 a1 a2 y107 (wrap64 (x12_1 + 1))) = some (r1, r2) := by first | (rw [hy107]; with_reducible exact H) | (have H2_ := (Option.bind_some _ _).symm.trans H; rw [hy107]; with_reducible exact H2_) | (have H2_ := (Option.bind_some _ _).symm.trans H; with_reducible exact H2_) | with_reducible exact H | (rw [hy107]; exact H) | exact H
      have Ny107 := A_ hy107
      clear hy107
      have H' := A_ H
      clear H
      go_wp2_with (first | ((with_reducible refine gate_builtin (b := .append) (xs := #[.tmp 60, .tmp 62]) rfl ?_); at_builtin; refine Kd.R_append (Kd.int .i64) (w0 := w) w.heap.size rfl (.tmp 60) (.tmp 62) 34 3 (.int .i64 0) 8 rfl Try.underlying34 info3 rfl (by decide) (by omega) u11 x11_1 x13_2 [.int .i64 x13_2] (fun _ => True) (fun _ => False) rfl rfl ?aP (fun _ hk => hk.elim) ?aF ?aO ?aB ?aS ?aL ?_; (case aP => exact rfl); (case aB => exact (bW0 HB.out)); (case aF => exact (fun _ _ => trivial)); (case aO => exact (rU HO_11.out)); (case aS => exact (below_size (bW0 HB.out))); (case aL => have := LMc15.out; omega); intro v108 w16 ho hb hg hat; rw [← Ny107.out] at ho; have n0_ := A_ (hb); have n1_ := A_ (ho); clear HB; clear HO_11; have HB := n0_; have HO109 := n1_; clear n0_ n1_; clear ho hb hg hat))
      go_roundg k2
      case measure => have := HK1.out; have := HK2.out; omega
      case rel => exact ⟨(y107), (wrap64 (x12_1 + 1)), (by first | rfl | (simp; done) | (simp [*]; done)), H', ⟨by have := HK1.out; have := HK2.out; omega⟩, ⟨rU HO109.out⟩, ⟨by repeat (first | (with_reducible first | exact HB.out | apply below_alloc | apply pw_below_drewN | apply below_drew1) | exact HB.out)⟩⟩
     rw [if_pos c9] at H
     have c9b0 : decide (x14_2 < (l0.length : Int)) = true := decide_eq_true c9
     clear c9
     by_cases c10 : 0 ≤ x14_2
     rotate_left
     ·rw [if_neg c10] at H
      exact absurd H (by simp)
     rw [if_pos c10] at H
     have c10b0 : decide (0 ≤ x14_2) = true := decide_eq_true c10
     clear c10
     replace H := Option.bind_eq_some_iff.mp H
     obtain ⟨t106, A110, H⟩ := H
     replace H : (dropperref02_Lowest.l1 k2 l0 a1 a2 x11_1 x12_1 (mx x13_2 (wrap64 (((rd_T72 l0 x14_2).f1) - t106))) (wrap64 (x14_2 + 1))) = some (r1, r2) := H
     have A11 := A_ A110
     clear A110
     obtain ⟨ji12, hji12⟩ : ∃ j_ : Int, (mx x13_2 (wrap64 (((rd_T72 l0 x14_2).f1) - t106))) = j_ := ⟨_, rfl⟩
     replace H : (dropperref02_Lowest.l1 k2 l0 a1 a2 x11_1 x12_1 ji12 (wrap64 (x14_2 + 1))) = some (r1, r2) := by first | (rw [hji12] at H; exact H) | (simp only [hji12] at H ⊢; exact H)
     (try rw [hji12] at A11)
     have hji12_ : (if x13_2 < (wrap64 (((rd_T72 l0 x14_2).f1) - t106)) then (wrap64 (((rd_T72 l0 x14_2).f1) - t106)) else x13_2) = ji12 := hji12
     have H' := A_ H
     clear H
     try go_wp2
     have n0_ := A_ (Kd.R_drew HO_11.out)
     have n1_ := A_ (below_drew1 HB.out)
     clear HO_11
     clear HB
     have HO_11 := n0_
     have HB := n1_
     clear n0_ n1_
     have p105 : 0 ≤ (x14_2 : Int) := of_decide_eq_true (by first | (with_reducible assumption) | assumption)
     have q105 : x14_2 < (l0.length : Int) := of_decide_eq_true (by first | (with_reducible assumption) | assumption)
     obtain ⟨ad105, e105, hx105_0, hx105_1, hx105_2⟩ := at_T72 HR0.out x14_2 p105 q105
     have hw105_2 := hx105_2
     have hw105_1 := hx105_1
     have hw105_0 := hx105_0
     obtain rfl : ad104 = ad105 := (by injection e105)
     replace hx105_0 := (HB.out.cell (World.block_lt_of_cell? w _ hx105_0)).trans hx105_0
     replace hx105_1 := (HB.out.cell (World.block_lt_of_cell? w _ hx105_1)).trans hx105_1
     replace hx105_2 := (HB.out.cell (World.block_lt_of_cell? w _ hx105_2)).trans hx105_2
     replace p105 := eq_true p105
     replace q105 := eq_true q105
     refine start_ (n := 15) (S := fun w' => w'.cell? (ad104.add ((x14_2).toNat * 3)) = some (.int .i64 ((rd_T72 l0 x14_2).f0)) ∧ w'.cell? ⟨(ad104.add ((x14_2).toNat * 3)).block, (ad104.add ((x14_2).toNat * 3)).off + 1, none⟩ = some (.int .i64 ((rd_T72 l0 x14_2).f1)) ∧ w'.cell? ⟨(ad104.add ((x14_2).toNat * 3)).block, (ad104.add ((x14_2).toNat * 3)).off + 2, none⟩ = some (.int .i64 ((rd_T72 l0 x14_2).f2))) (ds := []) (mkB 15 0) (by kernel_rfl) rfl rfl ⟨(pw_cell_below HB.out hw105_0), (pw_cell_below HB.out hw105_1), (pw_cell_below HB.out hw105_2)⟩ (fun hHeld => ?_); refine with_tabW dropperref02_Lowest.tab15 dropperref02_Lowest.bits15 (fun HT_ HW_ => ?_)
     generalize wr.drew = w13 at HO_11 HB hx105_0 hx105_1 hx105_2 hHeld ⊢
     refine pr_ 0 (some 46) (mkB 15 1) HT_ ?_
     refine pr_ 1 (some 47) (mkB 15 3) HT_ ?_
     refine pr_ 2 (some 48) (mkB 15 7) HT_ ?_
     refine pr_ 3 (some 49) (mkB 15 15) HT_ ?_
     refine pr_ 4 (some 50) (mkB 15 31) HT_ ?_
     refine pr_ 6 (some 52) (mkB 15 95) HT_ ?_
     refine pr_ 7 (some 53) (mkB 15 223) HT_ ?_
     refine pr_ 8 (some 54) (mkB 15 479) HT_ ?_
     refine pr_ 9 (some 55) (mkB 15 991) HT_ ?_
     refine pr_ 10 (some 56) (mkB 15 2015) HT_ ?_
     refine take_ (i := 5) (N := some 51) (v := ?_) (a' := ?_) (mkB 15 2047) rfl rfl (take_ofW HT_.out HW_.out (by kernel_rfl)) (fun _ _ _ h => h) (Or.inl ⟨by rfl, ?_⟩) hHeld ?_ ?_
     rotate_left
     ·rintro w' ⟨s0, s1, s2⟩
      go_simp
      with_reducible rfl
     rotate_left
     ·simp only [Act.put, List.setIfInBounds_toArray, List.set_cons_zero, List.set_cons_succ, i64_w, i32_w]
      rfl
     refine one_ (i := 11) (N := some 57) (mkB 15 4095) rfl rfl (one_of HT_.out (by kernel_rfl)) (by decide) (fun K hK => ?_)
     refine goes_ Try.func71 (by kernel_rfl) rfl #[.slice (some ad104) l0.length c0, .int .i64 a1, .int .i64 a2, .int .i64 x12_1, .int .i64 x14_2] (by rfl) rfl rfl (by (try simp only [List.map_toArray, List.map_cons, List.map_nil]); first | done | rfl | (simp only [List.length_drop, List.length_take]; rfl)) ?_
     with_reducible refine (dropperref02_steps.calls k2 _ _ l0 a1 a2 x12_1 x14_2 t106 _ ?side1 ?side2 A11.out).mono ?_
     (case side1 => exact cU (Kd.C_below HR0.out HB.out))
     (case side2 => exact HC0.out)
     rintro e w14 ⟨rfl, hb⟩
     refine ⟨_, rfl, ?_⟩
     have n0_ := A_ (Kd.R_below (rU HO_11.out) hb)
     have n1_ := A_ (below_step (bW0 HB.out) hb)
     clear HO_11
     clear HB
     have HO_11 := n0_
     have HB := n1_
     clear n0_ n1_
     (try clear hb)
     (try clear hb2)
     (try clear hk)
     (try clear hi)
     refine hK.out _ _ ⟨(pw_cell_below HB.out hw105_0), (pw_cell_below HB.out hw105_1), (pw_cell_below HB.out hw105_2)⟩ (fun hHeld => ?_)
     clear hK K
     refine norm_ (a' := ?_) ?_ ?_
     rotate_left
     ·show Act.put _ (some 57) _ = _
      simp only [Act.put, List.setIfInBounds_toArray, List.set_cons_zero, List.set_cons_succ, i64_w, i32_w]
      rfl
     refine pr_ 12 (some 58) (mkB 15 8191) HT_ ?_
     refine pr_ 13 (some 59) (mkB 15 16383) HT_ ?_
     refine pr_ 14 (some 13) (mkB 15 32767) HT_ ?_
     refine done_ (done_of HT_.out (by kernel_rfl)) ?_
     try go_wp2
     go_roundg k2
     case measure => have := HK1.out; have := HK2.out; omega
     case rel => exact ⟨(ji12), (wrap64 (x14_2 + 1)), (by first | rfl | (simp; done) | (simp only [← hji12] <;> (first | rfl | simp)) | (simp [*]; done)), (by first | rfl | (simp; done) | (simp [*]; done)), H', ⟨by have := HK1.out; have := HK2.out; omega⟩, ⟨rU HO_11.out⟩, ⟨by repeat (first | (with_reducible first | exact HB.out | apply below_alloc | apply pw_below_drewN | apply below_drew1) | exact HB.out)⟩⟩
end Go.Proofs.Ytciepmpadcpkbaa.G
