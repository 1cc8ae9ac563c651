/- Functions of the seat and plain laws about them: GF26, GF12, GF11D. -/
import Derived.Test.YthbpibdfookbmaaGBase
import Derived.Test.YthbpibdfookbmaaZT4
import Derived.Test.YthbpibdfookbmaaZT1
import Derived.Test.YthbpibdfookbmaaZT0
import Derived.Test.YthbpibdfookbmaaZT6
import Derived.Test.YthbpibdfookbmaaZT7
import Derived.Test.YthbpibdfookbmaaZT8
import Derived.Test.YthbpibdfookbmaaZT12
import Derived.Test.YthbpibdfookbmaaZT14
section
namespace Go.Proofs.Ythbpibdfookbmaa.G
open Go.RowKit Go.Proofs.YthbpibdfookbmaaW.PrintWords Go.Proofs.YthbpibdfookbmaaW.PrintLast Go.Proofs.YthbpibdfookbmaaW.PrintMore
attribute [local go_sem] max2_int min2_int max_two min_two max_three min_three max_four min_four
set_option linter.unusedVariables false
set_option linter.unusedSimpArgs false
mutual
def dropperref08_Density.l0 : Nat → List Int → Int → Int → Option (Int × Int × Int)
 | 0, _, _, _ => none
 | k + 1, x0, x4, x5 => if x5 < (x0.length : Int) then (if 0 ≤ x5 then (if (rd x0 x5) = 0 then (none) else (dropperref08_Density.l0 k x0 (wrap64 (x4 + (wrap64 (Int.tdiv (840 : Int) (rd x0 x5))))) (wrap64 (x5 + 1)))) else (none)) else (dropperref08_Density.l1 k x4 x4 840)
def dropperref08_Density.l1 : Nat → Int → Int → Int → Option (Int × Int × Int)
 | 0, _, _, _ => none
 | k + 1, x4, x6, x7 => if x7 = 0 then (if x6 = 0 then (none) else (some (wrap64 (Int.tdiv x4 x6), wrap64 (Int.tdiv (840 : Int) x6), 0))) else (dropperref08_Density.l1 k x4 x7 (Int.tmod x6 x7))
end
def dropperref08_Density.f (k : Nat) (l0 : List Int) : Option (Int × Int × Int) := (dropperref08_Valid.f k l0).bind fun t102 => (if t102 = true then (dropperref08_Density.l0 k l0 0 0) else (some (0, 0, 80)))
theorem dropperref08_Density.mono_l : ∀ k, (∀ y0 y1 y2, LeO (dropperref08_Density.l0 k y0 y1 y2) (dropperref08_Density.l0 (k + 1) y0 y1 y2)) ∧ (∀ y0 y1 y2, LeO (dropperref08_Density.l1 k y0 y1 y2) (dropperref08_Density.l1 (k + 1) y0 y1 y2))
 | 0 => ⟨fun _ _ _ r h => by simp [dropperref08_Density.l0] at h, fun _ _ _ r h => by simp [dropperref08_Density.l1] at h⟩
 | k + 1 => by
  obtain ⟨ih0, ih1⟩ := dropperref08_Density.mono_l k
  refine ⟨?_, ?_⟩
  ·intro y0 y1 y2
   unfold dropperref08_Density.l0
   repeat' first
   | (with_reducible exact ih0 _ _ _)
   | (with_reducible exact ih1 _ _ _)
   | (with_reducible exact dropperref08_Valid.mono _ _)
   | (with_reducible exact LeO.refl _)
   | (with_reducible exact LeO.none _)
   | (with_reducible refine LeO.ite ?_ ?_)
   | (with_reducible refine LeO.bind ?_ (fun _ => ?_))
   | exact ih0 _ _ _
   | exact ih1 _ _ _
   | exact dropperref08_Valid.mono _ _
   | exact LeO.none _
   | refine LeO.ite ?_ ?_
   | refine LeO.bind ?_ (fun _ => ?_)
  ·intro y0 y1 y2
   unfold dropperref08_Density.l1
   repeat' first
   | (with_reducible exact ih0 _ _ _)
   | (with_reducible exact ih1 _ _ _)
   | (with_reducible exact dropperref08_Valid.mono _ _)
   | (with_reducible exact LeO.refl _)
   | (with_reducible exact LeO.none _)
   | (with_reducible refine LeO.ite ?_ ?_)
   | (with_reducible refine LeO.bind ?_ (fun _ => ?_))
   | exact ih0 _ _ _
   | exact ih1 _ _ _
   | exact dropperref08_Valid.mono _ _
   | exact LeO.none _
   | refine LeO.ite ?_ ?_
   | refine LeO.bind ?_ (fun _ => ?_)
theorem dropperref08_Density.mono : ∀ a0 k, LeO (dropperref08_Density.f k a0) (dropperref08_Density.f (k + 1) a0) := by
 intro a0 k
 obtain ⟨ih0, ih1⟩ := dropperref08_Density.mono_l k
 unfold dropperref08_Density.f
 repeat' first
   | (with_reducible exact ih0 _ _ _)
   | (with_reducible exact ih1 _ _ _)
   | (with_reducible exact dropperref08_Valid.mono _ _)
   | (with_reducible exact LeO.refl _)
   | (with_reducible exact LeO.none _)
   | (with_reducible refine LeO.ite ?_ ?_)
   | (with_reducible refine LeO.bind ?_ (fun _ => ?_))
   | exact ih0 _ _ _
   | exact ih1 _ _ _
   | exact dropperref08_Valid.mono _ _
   | exact LeO.none _
   | refine LeO.ite ?_ ?_
   | refine LeO.bind ?_ (fun _ => ?_)
def dropperref08_Density.T11 : Bool × List (List Nat × List Nat) := (true, [([], []), ([], []), ([0, 1], [0, 1]), ([], []), ([3], [3]), ([2, 4], [2, 4]), ([5, 0, 1, 2, 3, 4, 5], [5]), ([6, 0, 1, 2, 3, 4, 5, 6], [])])
def dropperref08_Density.B11 : List Nat := [0, 0, 3, 0, 8, 31, 63, 127]
theorem dropperref08_Density.tab11 : rtab .any (opsOf Try.f26 11) = dropperref08_Density.T11 := by kernel_rfl
theorem dropperref08_Density.bits11 : waitsOk dropperref08_Density.T11.2 dropperref08_Density.B11 = true := by kernel_rfl
set_option maxHeartbeats 8000000 in
set_option maxRecDepth 100000 in
theorem dropperref08_Density.calls (k : Nat) (A0 : Option Addr) (c0 : Nat) (l0 : List Int) (r1 : Int) (r2 : Int) (r3 : Int) (w : World) (hr0 : Kd.C (Kd.int .i64) w A0 l0.length l0) (hc0 : l0.length ≤ c0) (h : dropperref08_Density.f k l0 = some (r1, r2, r3)) :
  Calls Try.prog 26 #[.slice A0 l0.length c0] w fun e w' => e = .returned (.tuple #[.agg #[.int .i64 r1, .int .i64 r2], .int .i64 r3]) ∧ Below w.heap.size w w' := by
 have hu35 := Try.underlying35; have HR0 := A_ hr0; have HC0 := A_ hc0; clear hr0 hc0; have HB := A_ (Below.refl w.heap.size w)
 have H : ((dropperref08_Valid.f k l0).bind fun t102 => (if t102 = true then (dropperref08_Density.l0 k l0 0 0) else (some (0, 0, 80)))) = some (r1, r2, r3) := h
 clear h; replace H := Option.bind_eq_some_iff.mp H; obtain ⟨t102, A20, H⟩ := H; (try dsimp only at H); have A2 := A_ A20; clear A20; by_cases c3 : t102 = true; rotate_left
 ·replace c3 := Bool.eq_false_iff.mpr c3
  subst c3; rw [if_neg (show ¬ (false = true) by decide)] at H; simp only [Option.some.injEq, Prod.mk.injEq] at H; obtain ⟨rfl, rfl, rfl⟩ := H
  go_enter Try.func26, Try.ntmps26
  go_wp2_with (first | ((with_reducible refine gate_dst (N := 2) rfl ?_); refine bxW 2 (cs := #[.int .i64 0, .int .i64 0]) (t := 35) ?_; intro gb101 hg w14 hbox hb; have n0_ := A_ (below_step (bW0 HB.out) hb); have n1_ := A_ (hbox); have n2_ := A_ ((szG hg (bW0 HB.out))); have n3_ := A_ ((szG hg (bW0 HB.out))); clear HB; have HB := n0_; have BK101 := n1_; have GW101 := n2_; have GE101 := n3_; clear n0_ n1_ n2_ n3_; clear hb hbox hg) | ((with_reducible refine gate_callee (f := 30) rfl ?_); refine goesW_ (some 9) Try.func30 #[.slice A0 l0.length c0] ?_; (with_reducible refine (dropperref08_Valid.calls k _ _ l0 false _ ?side1 ?side2 A2.out).mono ?_); (case side1 => exact cU (Kd.C_below HR0.out HB.out)); (case side2 => exact HC0.out); rintro e w' ⟨rfl, ⟨nd, rfl⟩⟩; refine ⟨_, rfl, ?_⟩; (try (rw [drewN_self w14]; generalize hq_ : World.drewN w14 _ = w14; have n0_ : Aside0 (w14.heap[gb101]? = some (.cells #[.int .i64 0, .int .i64 0] 35 (0, 0))) := ⟨by rw [← hq_]; exact (bkU BK101)⟩; have n1_ : Aside0 (Below w.heap.size w w14) := ⟨by rw [← hq_]; exact (bW1 HB.out GE101.out)⟩; clear BK101 HB hq_; have BK101 := n0_; have HB := n1_; clear n0_ n1_)); have hcz15_0 : w14.cell? ⟨gb101, 0, none⟩ = some (.int .i64 0) := (blk_cell BK101.out 0).trans rfl; have hcz15_1 : w14.cell? ⟨gb101, 1, none⟩ = some (.int .i64 0) := (blk_cell BK101.out 1).trans rfl; have hfz15_0 := blk_frozen BK101.out 0; have hfz15_1 := blk_frozen BK101.out 1))
  refine bodyPost_ret (results_ct rfl _ _ gb101 35 #[.int .i64 0, .int .i64 0] (0, 0) _ rfl (by (with_reducible repeat (first | refine blk_drewN ?_ _ | refine blk_drew ?_ | refine blk_alloc ?_ _)); refine blk_put (cs := #[.int .i64 0, .int .i64 0]) ?_ 1 _ rfl; (with_reducible repeat (first | refine blk_drewN ?_ _ | refine blk_drew ?_ | refine blk_alloc ?_ _)); refine blk_put (cs := #[.int .i64 0, .int .i64 0]) ?_ 0 _ rfl; exact bkU BK101) Try.underlying35 rfl (by kernel_rfl)) rfl ?_
  exact ⟨eQ, by repeat (first | (with_reducible first | exact HB.out | apply below_alloc | apply pw_below_drewN | apply below_drew1 | refine below_set ?_ GE101.out) | exact HB.out)⟩
 subst c3; rw [if_pos rfl] at H; have H' := A_ H; clear H
 go_enter Try.func26, Try.ntmps26
 go_wp2_with (first | ((with_reducible refine gate_dst (N := 2) rfl ?_); refine bxW 2 (cs := #[.int .i64 0, .int .i64 0]) (t := 35) ?_; intro gb101 hg w4 hbox hb; have n0_ := A_ (below_step (bW0 HB.out) hb); have n1_ := A_ (hbox); have n2_ := A_ ((szG hg (bW0 HB.out))); have n3_ := A_ ((szG hg (bW0 HB.out))); clear HB; have HB := n0_; have BK101 := n1_; have GW101 := n2_; have GE101 := n3_; clear n0_ n1_ n2_ n3_; clear hb hbox hg) | ((with_reducible refine gate_callee (f := 30) rfl ?_); refine goesW_ (some 9) Try.func30 #[.slice A0 l0.length c0] ?_; (with_reducible refine (dropperref08_Valid.calls k _ _ l0 true _ ?side1 ?side2 A2.out).mono ?_); (case side1 => exact cU (Kd.C_below HR0.out HB.out)); (case side2 => exact HC0.out); rintro e w' ⟨rfl, ⟨nd, rfl⟩⟩; refine ⟨_, rfl, ?_⟩))
 go_loopg [4, 5] k (fun kq v4 v5 w' => ∃ (x4_1 : Int) (x5_1 : Int), v4 = .int .i64 x4_1 ∧ v5 = .int .i64 x5_1 ∧ Aside0 (dropperref08_Density.l0 kq l0 x4_1 x5_1 = some (r1, r2, r3)) ∧ Aside0 (kq ≤ k) ∧ Aside0 (w'.heap[gb101]? = some (.cells #[.int .i64 0, .int .i64 0] 35 (0, 0))) ∧ Aside0 (Below w.heap.size w w'))
 case atStart => exact ⟨(0), (0), eS, eS, H', ⟨Nat.le_refl _⟩, ⟨bkU BK101⟩, ⟨by repeat (first | (with_reducible first | exact HB.out | apply below_alloc | apply pw_below_drewN | apply below_drew1 | refine below_set ?_ GE101.out) | exact HB.out)⟩⟩
 case round =>
  clear H'
  try clear c2; try clear p2; try clear c3
  obtain ⟨x4_1, x5_1, rfl, rfl, HA, HK1, BK101, HB⟩ := hrel
  cases gk with
  | zero => exact absurd HA.out (by simp [dropperref08_Density.l0])
  | succ k1 =>
   have H := HA.out; clear HA; simp only [dropperref08_Density.l0] at H; by_cases c5 : x5_1 < (l0.length : Int)
   ·rw [if_pos c5] at H
    have c5b0 : decide (x5_1 < (l0.length : Int)) = true := decide_eq_true c5; clear c5; by_cases c6 : 0 ≤ x5_1; rotate_left
    ·rw [if_neg c6] at H
     exact absurd H (by simp)
    rw [if_pos c6] at H; have c6b0 : decide (0 ≤ x5_1) = true := decide_eq_true c6; clear c6; by_cases c7 : (rd l0 x5_1) = 0
    ·rw [if_pos c7] at H
     exact absurd H (by simp)
    rw [if_neg c7] at H; have c7b0 : ((rd l0 x5_1) == 0) = false := beq_eq_false_iff_ne.mpr c7; have c7b1 : ((rd l0 x5_1) != 0) = true := bne_iff_ne.mpr c7; have H' := A_ H; clear H; have p103 : 0 ≤ (x5_1 : Int) := oD; have q103 : x5_1 < (l0.length : Int) := oD; obtain ⟨ad103, e103, hx103_0⟩ := Kd.at_int HR0.out x5_1 p103 q103
    cases e103
    replace hx103_0 := (HB.out.cell (World.block_lt_of_cell? w _ hx103_0)).trans hx103_0; replace p103 := eq_true p103; replace q103 := eq_true q103
    go_wp2
    go_roundg k1
    case measure => have := HK1.out; omega
    case rel => exact ⟨(wrap64 (x4_1 + (wrap64 (Int.tdiv (840 : Int) (rd l0 x5_1))))), (wrap64 (x5_1 + 1)), eS, eS, H', ⟨by have := HK1.out; omega⟩, ⟨bkU BK101⟩, ⟨by repeat (first | (with_reducible first | exact HB.out | apply below_alloc | apply pw_below_drewN | apply below_drew1 | refine below_set ?_ GE101.out) | exact HB.out)⟩⟩
   rw [if_neg c5] at H; have c5b0 : decide (x5_1 < (l0.length : Int)) = false := decide_eq_false c5; clear c5; have H' := A_ H; clear H
   go_wp2
   go_loopg [6, 7] k1 (fun kq v6 v7 w' => ∃ (x6_2 : Int) (x7_2 : Int), v6 = .int .i64 x6_2 ∧ v7 = .int .i64 x7_2 ∧ Aside0 (dropperref08_Density.l1 kq x4_1 x6_2 x7_2 = some (r1, r2, r3)) ∧ Aside0 (kq ≤ k1) ∧ Aside0 (w'.heap[gb101]? = some (.cells #[.int .i64 0, .int .i64 0] 35 (0, 0))) ∧ Aside0 (Below w.heap.size w w'))
   case atStart => exact ⟨(x4_1), (840), eS, eS, H', ⟨Nat.le_refl _⟩, ⟨bkU BK101⟩, ⟨by repeat (first | (with_reducible first | exact HB.out | apply below_alloc | apply pw_below_drewN | apply below_drew1 | refine below_set ?_ GE101.out) | exact HB.out)⟩⟩
   case round =>
    clear H'
    try clear p1; try clear q1; try clear hx1; try clear c2; try clear p2; try clear c3; try clear c5; try clear c5b0; try clear c6; try clear c6b0; try clear p6; try clear c7; try clear c7b0; try clear c7b1; try clear hx103_0; try clear p103; try clear p2; try clear q103
    obtain ⟨x6_2, x7_2, rfl, rfl, HA, HK2, BK101, HB⟩ := hrel
    cases gk with
    | zero => exact absurd HA.out (by simp [dropperref08_Density.l1])
    | succ k2 =>
     have H := HA.out; clear HA; simp only [dropperref08_Density.l1] at H; by_cases c8 : x7_2 = 0
     ·rw [if_pos c8] at H
      have c8b0 : (x7_2 == 0) = true := beq_iff_eq.mpr c8; have c8b1 : (x7_2 != 0) = false := bne_eq_false_iff_eq.mpr c8; clear c8; by_cases c9 : x6_2 = 0
      ·rw [if_pos c9] at H
       exact absurd H (by simp)
      rw [if_neg c9] at H; have c9b0 : (x6_2 == 0) = false := beq_eq_false_iff_ne.mpr c9; have c9b1 : (x6_2 != 0) = true := bne_iff_ne.mpr c9; simp only [Option.some.injEq, Prod.mk.injEq] at H; obtain ⟨rfl, rfl, rfl⟩ := H
      try go_wp2
      have n0_ := A_ (blk_drew BK101.out); have n1_ := A_ (below_drew1 HB.out); clear BK101 HB; have BK101 := n0_; have HB := n1_; clear n0_ n1_
      refine start_ (n := 8) (S := fun w' => True) (ds := []) (mkB 8 0) (by kernel_rfl) rfl rfl trivial (fun hHeld => ?_); refine with_tabW dropperref08_Density.tab11 dropperref08_Density.bits11 (fun HT_ HW_ => ?_)
      generalize wr.drew = w10 at BK101 HB hHeld ⊢; refine pr_ 0 (some 32) (mkB 8 1) HT_ ?_; refine pr_ 1 (some 33) (mkB 8 3) HT_ ?_; refine pr_ 2 (some 34) (mkB 8 7) HT_ ?_; refine pr_ 3 (some 35) (mkB 8 15) HT_ ?_; refine pr_ 4 (some 36) (mkB 8 31) HT_ ?_; refine pr_ 5 (some 37) (mkB 8 63) HT_ ?_
      refine one_ (i := 6) (N := none) (mkB 8 127) rfl rfl (one_of HT_.out (by kernel_rfl)) (by decide) (fun K hK => ?_)
      have hs11 : w10.cell? ⟨gb101, 0, none⟩ = some (.int .i64 0) := (blk_cell BK101.out 0).trans rfl; have hfs11 := blk_frozen BK101.out 0; have hs12 : w10.cell? ⟨gb101, 1, none⟩ = some (.int .i64 0) := (blk_cell BK101.out 1).trans rfl; have hfs12 := blk_frozen BK101.out 1
      refine skip_ (w1 := ?_) (by rfl) rfl ?_ ?_
      rotate_left
      ·go_simp
       rfl
      refine hK.out _ _ trivial (fun hHeld => ?_)
      clear hK K; refine pr_ 7 (some 3) (mkB 8 255) HT_ ?_
      refine done_ (done_of HT_.out (by kernel_rfl)) ?_
      try go_wp2
      refine bodyPost_ret (results_ct rfl _ _ gb101 35 #[.int .i64 (wrap64 (Int.tdiv x4_1 x6_2)), .int .i64 (wrap64 (Int.tdiv (840 : Int) x6_2))] (0, 0) _ rfl (by (with_reducible repeat (first | refine blk_drewN ?_ _ | refine blk_drew ?_ | refine blk_alloc ?_ _)); refine blk_put (cs := #[.int .i64 (wrap64 (Int.tdiv x4_1 x6_2)), .int .i64 0]) ?_ 1 _ rfl; (with_reducible repeat (first | refine blk_drewN ?_ _ | refine blk_drew ?_ | refine blk_alloc ?_ _)); refine blk_put (cs := #[.int .i64 0, .int .i64 0]) ?_ 0 _ rfl; exact bkU BK101) Try.underlying35 rfl (by kernel_rfl)) rfl ?_
      exact ⟨eQ, by repeat (first | (with_reducible first | exact HB.out | apply below_alloc | apply pw_below_drewN | apply below_drew1 | refine below_set ?_ GE101.out) | exact HB.out)⟩
     rw [if_neg c8] at H; have c8b0 : (x7_2 == 0) = false := beq_eq_false_iff_ne.mpr c8; have c8b1 : (x7_2 != 0) = true := bne_iff_ne.mpr c8; have H' := A_ H; clear H
     try go_wp2
     have n0_ := A_ (blk_drew BK101.out); have n1_ := A_ (below_drew1 HB.out); clear BK101 HB; have BK101 := n0_; have HB := n1_; clear n0_ n1_
     refine start_ (n := 6) (S := fun w' => True) (ds := []) (mkB 6 0) (by kernel_rfl) rfl rfl trivial (fun hHeld => ?_)
     generalize wr.drew = w13 at BK101 HB hHeld ⊢
     refine pure_ (i := 0) (N := some 28) (v := ?_) (a' := ?_) (mkB 6 1) rfl rfl (by kernel_rfl) (fun _ _ _ h => h) (Or.inl ⟨by rfl, ?_⟩) ?_ ?_
     rotate_left
     ·intro w'
      go_simp
      with_reducible rfl
     rotate_left
     ·simp only [Act.put, List.setIfInBounds_toArray, List.set_cons_zero, List.set_cons_succ, i64_w, i32_w]
      rfl
     refine pure_ (i := 1) (N := some 29) (v := ?_) (a' := ?_) (mkB 6 3) rfl rfl (by kernel_rfl) (fun _ _ _ h => h) (Or.inl ⟨by rfl, ?_⟩) ?_ ?_
     rotate_left
     ·intro w'
      go_simp
      with_reducible rfl
     rotate_left
     ·simp only [Act.put, List.setIfInBounds_toArray, List.set_cons_zero, List.set_cons_succ, i64_w, i32_w]
      rfl
     refine pure_ (i := 2) (N := some 30) (v := ?_) (a' := ?_) (mkB 6 7) rfl rfl (by kernel_rfl) (fun _ _ _ h => h) (Or.inl ⟨by rfl, ?_⟩) ?_ ?_
     rotate_left
     ·intro w'
      go_simp
      with_reducible rfl
     rotate_left
     ·simp only [Act.put, List.setIfInBounds_toArray, List.set_cons_zero, List.set_cons_succ, i64_w, i32_w]
      rfl
     refine pure_ (i := 3) (N := some 31) (v := ?_) (a' := ?_) (mkB 6 15) rfl rfl (by kernel_rfl) (fun _ _ _ h => h) (Or.inl ⟨by rfl, ?_⟩) ?_ ?_
     rotate_left
     ·intro w'
      go_simp
      with_reducible rfl
     rotate_left
     ·simp only [Act.put, List.setIfInBounds_toArray, List.set_cons_zero, List.set_cons_succ, i64_w, i32_w]
      rfl
     refine pure_ (i := 4) (N := some 6) (v := ?_) (a' := ?_) (mkB 6 31) rfl rfl (by kernel_rfl) (fun _ _ _ h => h) (Or.inl ⟨by rfl, ?_⟩) ?_ ?_
     rotate_left
     ·intro w'
      go_simp
      with_reducible rfl
     rotate_left
     ·simp only [Act.put, List.setIfInBounds_toArray, List.set_cons_zero, List.set_cons_succ, i64_w, i32_w]
      rfl
     refine pure_ (i := 5) (N := some 7) (v := ?_) (a' := ?_) (mkB 6 63) rfl rfl (by kernel_rfl) (fun _ _ _ h => h) (Or.inl ⟨by rfl, ?_⟩) ?_ ?_
     rotate_left
     ·intro w'
      go_simp
      with_reducible rfl
     rotate_left
     ·simp only [Act.put, List.setIfInBounds_toArray, List.set_cons_zero, List.set_cons_succ, i64_w, i32_w]
      rfl
     refine done_ (by kernel_rfl) ?_
     try go_wp2
     go_roundg k2
     case measure => have := HK1.out; have := HK2.out; omega
     case rel => exact ⟨(x7_2), (Int.tmod x6_2 x7_2), eS, eS, H', ⟨by have := HK1.out; have := HK2.out; omega⟩, ⟨bkU BK101⟩, ⟨by repeat (first | (with_reducible first | exact HB.out | apply below_alloc | apply pw_below_drewN | apply below_drew1 | refine below_set ?_ GE101.out) | exact HB.out)⟩⟩
end Go.Proofs.Ythbpibdfookbmaa.G
end
section
namespace Go.Proofs.Ythbpibdfookbmaa.G
open Go.RowKit Go.Proofs.YthbpibdfookbmaaW.PrintWords Go.Proofs.YthbpibdfookbmaaW.PrintLast Go.Proofs.YthbpibdfookbmaaW.PrintMore
attribute [local go_sem] max2_int min2_int max_two min_two max_three min_three max_four min_four
set_option linter.unusedVariables false
set_option linter.unusedSimpArgs false
attribute [local go_sem high] eqA35
def dropperlaw08_Awake.f (k : Nat)  : Option (Bool) := (ice_Density.f k (([2, 3] : List Int))).bind fun bt104 => ((ice_ByHalves.f k (([2, 4, 4] : List Int))).bind fun bt111 => ((ice_Lasts.f k (([1, 8] : List Int))).bind fun bt118 => ((ice_Lasts.f k (([2, 3, 6] : List Int))).bind fun bt123 => (if bt104.2.2 = 0 then (if bt111.2 = 0 then (if bt118.2 = 0 then (if bt123.2 = 0 then (if (bt104.1 == 5 && (bt104.2.1 == 6)) = true then ((dropperlaw08_SameInts.f k bt111.1 (([0, 1, 0, 2, 0, 1, 0, 2] : List Int))).bind fun t128 => (if t128 = true then (some (bt118.1 == 7)) else (some false))) else (some false)) else (some false)) else (some false)) else (some false)) else (some false)))))
theorem dropperlaw08_Awake.mono : ∀ k, LeO (dropperlaw08_Awake.f k ) (dropperlaw08_Awake.f (k + 1) ) := by
 intro  k
 unfold dropperlaw08_Awake.f
 repeat' first
   | (with_reducible exact dropperlaw08_SameInts.mono _ _ _)
   | (with_reducible exact ice_ByHalves.mono _ _)
   | (with_reducible exact ice_Density.mono _ _)
   | (with_reducible exact ice_Lasts.mono _ _)
   | (with_reducible exact LeO.refl _)
   | (with_reducible exact LeO.none _)
   | (with_reducible refine LeO.ite ?_ ?_)
   | (with_reducible refine LeO.bind ?_ (fun _ => ?_))
   | exact dropperlaw08_SameInts.mono _ _ _
   | exact ice_ByHalves.mono _ _
   | exact ice_Density.mono _ _
   | exact ice_Lasts.mono _ _
   | exact LeO.none _
   | refine LeO.ite ?_ ?_
   | refine LeO.bind ?_ (fun _ => ?_)
set_option maxHeartbeats 8000000 in
set_option maxRecDepth 100000 in
theorem dropperlaw08_Awake.calls_true (k : Nat)  (r : Bool) (w : World) (h : dropperlaw08_Awake.f k  = some r) (hT : r = true) :
  Calls Try.prog 12 #[] w fun e w' => e = .returned (.bool r) ∧ Below w.heap.size w w' := by
 have hu35 := Try.underlying35; have HB := A_ (Below.refl w.heap.size w)
 have H : ((ice_Density.f k (([2, 3] : List Int))).bind fun bt104 => ((ice_ByHalves.f k (([2, 4, 4] : List Int))).bind fun bt111 => ((ice_Lasts.f k (([1, 8] : List Int))).bind fun bt118 => ((ice_Lasts.f k (([2, 3, 6] : List Int))).bind fun bt123 => (if bt104.2.2 = 0 then (if bt111.2 = 0 then (if bt118.2 = 0 then (if bt123.2 = 0 then (if (bt104.1 == 5 && (bt104.2.1 == 6)) = true then ((dropperlaw08_SameInts.f k bt111.1 (([0, 1, 0, 2, 0, 1, 0, 2] : List Int))).bind fun t128 => (if t128 = true then (some (bt118.1 == 7)) else (some false))) else (some false)) else (some false)) else (some false)) else (some false)) else (some false)))))) = some r := h
 clear h; obtain ⟨y101, hy101⟩ : ∃ y_ : List Int, y_ = (([2, 3] : List Int)) := ⟨_, rfl⟩
 replace H : ((ice_Density.f k y101).bind fun bt104 => ((ice_ByHalves.f k (([2, 4, 4] : List Int))).bind fun bt111 => ((ice_Lasts.f k (([1, 8] : List Int))).bind fun bt118 => ((ice_Lasts.f k (([2, 3, 6] : List Int))).bind fun bt123 => (if bt104.2.2 = 0 then (if bt111.2 = 0 then (if bt118.2 = 0 then (if bt123.2 = 0 then (if (bt104.1 == 5 && (bt104.2.1 == 6)) = true then ((dropperlaw08_SameInts.f k bt111.1 (([0, 1, 0, 2, 0, 1, 0, 2] : List Int))).bind fun t128 => (if t128 = true then (some (bt118.1 == 7)) else (some false))) else (some false)) else (some false)) else (some false)) else (some false)) else (some false)))))) = some r := by first | (rw [hy101]; with_reducible exact H) | (have H2_ := (Option.bind_some _ _).symm.trans H; rw [hy101]; with_reducible exact H2_) | (have H2_ := (Option.bind_some _ _).symm.trans H; with_reducible exact H2_) | with_reducible exact H | (rw [hy101]; exact H) | exact H
 have Ny101 := A_ hy101; clear hy101; replace H := Option.bind_eq_some_iff.mp H; obtain ⟨⟨t104, t105, t106⟩, A10, H⟩ := H; (try dsimp only at H); have A1 := A_ A10; clear A10; obtain ⟨y108, hy108⟩ : ∃ y_ : List Int, y_ = (([2, 4, 4] : List Int)) := ⟨_, rfl⟩
 replace H : ((ice_ByHalves.f k y108).bind fun bt111 => ((ice_Lasts.f k (([1, 8] : List Int))).bind fun bt118 => ((ice_Lasts.f k (([2, 3, 6] : List Int))).bind fun bt123 => (if t106 = 0 then (if bt111.2 = 0 then (if bt118.2 = 0 then (if bt123.2 = 0 then (if (t104 == 5 && (t105 == 6)) = true then ((dropperlaw08_SameInts.f k bt111.1 (([0, 1, 0, 2, 0, 1, 0, 2] : List Int))).bind fun t128 => (if t128 = true then (some (bt118.1 == 7)) else (some false))) else (some false)) else (some false)) else (some false)) else (some false)) else (some false))))) = some r := by first | (rw [hy108]; with_reducible exact H) | (have H2_ := (Option.bind_some _ _).symm.trans H; rw [hy108]; with_reducible exact H2_) | (have H2_ := (Option.bind_some _ _).symm.trans H; with_reducible exact H2_) | with_reducible exact H | (rw [hy108]; exact H) | exact H
 have Ny108 := A_ hy108; clear hy108; replace H := Option.bind_eq_some_iff.mp H; obtain ⟨⟨t111, t112⟩, A20, H⟩ := H; (try dsimp only at H); have A2 := A_ A20; clear A20; obtain ⟨y115, hy115⟩ : ∃ y_ : List Int, y_ = (([1, 8] : List Int)) := ⟨_, rfl⟩
 replace H : ((ice_Lasts.f k y115).bind fun bt118 => ((ice_Lasts.f k (([2, 3, 6] : List Int))).bind fun bt123 => (if t106 = 0 then (if t112 = 0 then (if bt118.2 = 0 then (if bt123.2 = 0 then (if (t104 == 5 && (t105 == 6)) = true then ((dropperlaw08_SameInts.f k t111 (([0, 1, 0, 2, 0, 1, 0, 2] : List Int))).bind fun t128 => (if t128 = true then (some (bt118.1 == 7)) else (some false))) else (some false)) else (some false)) else (some false)) else (some false)) else (some false)))) = some r := by first | (rw [hy115]; with_reducible exact H) | (have H2_ := (Option.bind_some _ _).symm.trans H; rw [hy115]; with_reducible exact H2_) | (have H2_ := (Option.bind_some _ _).symm.trans H; with_reducible exact H2_) | with_reducible exact H | (rw [hy115]; exact H) | exact H
 have Ny115 := A_ hy115; clear hy115; replace H := Option.bind_eq_some_iff.mp H; obtain ⟨⟨t118, t119⟩, A30, H⟩ := H; (try dsimp only at H); have A3 := A_ A30; clear A30; obtain ⟨y120, hy120⟩ : ∃ y_ : List Int, y_ = (([2, 3, 6] : List Int)) := ⟨_, rfl⟩
 replace H : ((ice_Lasts.f k y120).bind fun bt123 => (if t106 = 0 then (if t112 = 0 then (if t119 = 0 then (if bt123.2 = 0 then (if (t104 == 5 && (t105 == 6)) = true then ((dropperlaw08_SameInts.f k t111 (([0, 1, 0, 2, 0, 1, 0, 2] : List Int))).bind fun t128 => (if t128 = true then (some (t118 == 7)) else (some false))) else (some false)) else (some false)) else (some false)) else (some false)) else (some false))) = some r := by first | (rw [hy120]; with_reducible exact H) | (have H2_ := (Option.bind_some _ _).symm.trans H; rw [hy120]; with_reducible exact H2_) | (have H2_ := (Option.bind_some _ _).symm.trans H; with_reducible exact H2_) | with_reducible exact H | (rw [hy120]; exact H) | exact H
 have Ny120 := A_ hy120; clear hy120; replace H := Option.bind_eq_some_iff.mp H; obtain ⟨⟨t123, t124⟩, A40, H⟩ := H; (try dsimp only at H); have A4 := A_ A40; clear A40; by_cases c5 : t106 = 0; rotate_left
 ·rw [if_neg c5] at H
  have c5b0 : (t106 == 0) = false := beq_eq_false_iff_ne.mpr c5; have c5b1 : (t106 != 0) = true := bne_iff_ne.mpr c5
  exact absurd (hT.symm.trans (Option.some.inj H).symm) (by decide)
 rw [if_pos c5] at H; have c5b0 : (t106 == 0) = true := beq_iff_eq.mpr c5; have c5b1 : (t106 != 0) = false := bne_eq_false_iff_eq.mpr c5; clear c5; by_cases c6 : t112 = 0; rotate_left
 ·rw [if_neg c6] at H
  have c6b0 : (t112 == 0) = false := beq_eq_false_iff_ne.mpr c6; have c6b1 : (t112 != 0) = true := bne_iff_ne.mpr c6
  exact absurd (hT.symm.trans (Option.some.inj H).symm) (by decide)
 rw [if_pos c6] at H; have c6b0 : (t112 == 0) = true := beq_iff_eq.mpr c6; have c6b1 : (t112 != 0) = false := bne_eq_false_iff_eq.mpr c6; clear c6; by_cases c7 : t119 = 0; rotate_left
 ·rw [if_neg c7] at H
  have c7b0 : (t119 == 0) = false := beq_eq_false_iff_ne.mpr c7; have c7b1 : (t119 != 0) = true := bne_iff_ne.mpr c7
  exact absurd (hT.symm.trans (Option.some.inj H).symm) (by decide)
 rw [if_pos c7] at H; have c7b0 : (t119 == 0) = true := beq_iff_eq.mpr c7; have c7b1 : (t119 != 0) = false := bne_eq_false_iff_eq.mpr c7; clear c7; by_cases c8 : t124 = 0; rotate_left
 ·rw [if_neg c8] at H
  have c8b0 : (t124 == 0) = false := beq_eq_false_iff_ne.mpr c8; have c8b1 : (t124 != 0) = true := bne_iff_ne.mpr c8
  exact absurd (hT.symm.trans (Option.some.inj H).symm) (by decide)
 rw [if_pos c8] at H; have c8b0 : (t124 == 0) = true := beq_iff_eq.mpr c8; have c8b1 : (t124 != 0) = false := bne_eq_false_iff_eq.mpr c8; clear c8; by_cases c9 : (t104 == 5 && (t105 == 6)) = true; rotate_left
 ·rw [if_neg c9] at H
  have c9b0 : (t104 == 5 && (t105 == 6)) = false := by simpa using c9
  (try (have c9b1 : decide (t104 = 5 && (t105 == 6)) = false := by simpa using c9))
  (try (have c9b2 : (t104 == 5 && (t105 == 6)) = false := by simpa using c9))
  (try (have c9b3 : ¬ (t104 = 5 && (t105 == 6)) := by simpa using c9))
  clear c9
  exact absurd (hT.symm.trans (Option.some.inj H).symm) (by decide)
 rw [if_pos c9] at H; have c9b0 : (t104 == 5 && (t105 == 6)) = true := c9
 (try (have c9b1 : decide (t104 = 5 && (t105 == 6)) = true := by simpa using c9))
 (try (have c9b2 : (t104 == 5 && (t105 == 6)) = true := by simpa using c9))
 clear c9; obtain ⟨y125, hy125⟩ : ∃ y_ : List Int, y_ = (([0, 1, 0, 2, 0, 1, 0, 2] : List Int)) := ⟨_, rfl⟩
 replace H : ((dropperlaw08_SameInts.f k t111 y125).bind fun t128 => (if t128 = true then (some (t118 == 7)) else (some false))) = some r := by first | (rw [hy125]; with_reducible exact H) | (have H2_ := (Option.bind_some _ _).symm.trans H; rw [hy125]; with_reducible exact H2_) | (have H2_ := (Option.bind_some _ _).symm.trans H; with_reducible exact H2_) | with_reducible exact H | (rw [hy125]; exact H) | exact H
 have Ny125 := A_ hy125; clear hy125; replace H := Option.bind_eq_some_iff.mp H; obtain ⟨t128, A100, H⟩ := H; (try dsimp only at H); have A10 := A_ A100; clear A100; by_cases c11 : t128 = true; rotate_left
 ·replace c11 := Bool.eq_false_iff.mpr c11
  subst c11; rw [if_neg (show ¬ (false = true) by decide)] at H
  exact absurd (hT.symm.trans (Option.some.inj H).symm) (by decide)
 subst c11; rw [if_pos rfl] at H; clear hT; obtain rfl := Option.some.inj H
 go_enter Try.func12, Try.ntmps12
 go_wp2_with (first | ((with_reducible refine gate_dst (N := 10) rfl ?_); (try (refine gate_guard (by rfl) ?_; dsimp only)); refine Kd.R_lit (Kd.int .i64) _ 3 ?hg (N := 10) ?hd (xs := ([2, 3] : List Int)) (inner := [.int .i64 2, .int .i64 3]) (ok := fun _ => True) (okp := fun _ => True) ?hr ?hp (fun _ hk => hk) trivial (Below.refl _ _) (Nat.le_refl _) (by simp) ?_; (case hd => rfl); (case hg => rfl); (case hr => first | (go_simp; done) | (go_simp; rfl)); (case hp => exact (Reps.one (show Kd.M (Kd.int .i64) _ _ _ 2 [.int .i64 2] from rfl) (Reps.one (show Kd.M (Kd.int .i64) _ _ _ 3 [.int .i64 3] from rfl) (Reps.none _ _)))); intro v102 w12 ho13 hb hg_ hnew_; clear hg_ hnew_; (first | rw [← Ny101.out] at ho13 | (simp only [Int.reduceToNat] at ho13; rw [← Ny101.out] at ho13)); have n0_ := A_ (Kd.R_lower ho13 (below_size (bW0 HB.out))); have n1_ := A_ (below_step (bW0 HB.out) hb); clear HB; have HO103 := n0_; have HB := n1_; clear n0_ n1_; clear hb ho13; obtain ⟨Ao14, co14, eo14⟩ := Kd.R_slice HO103.out; subst eo14) | ((with_reducible refine gate_callee (f := 25) rfl ?_); refine goesW_ (some 11) Try.func25 #[.slice Ao14 y101.length co14] ?_; (with_reducible refine (ice_Density.calls k _ _ y101 t104 t105 t106 _ ?side1 ?side2 A1.out).mono ?_); (case side1 => exact cU (Kd.R_reads' HO103.out).2.2); (case side2 => exact (Kd.R_reads' HO103.out).2.1); rintro e w15 ⟨rfl, hb⟩; refine ⟨_, rfl, ?_⟩; have n0_ := A_ (Kd.R_below (rU HO103.out) hb); have n1_ := A_ (below_step (bW0 HB.out) hb); clear HO103; clear HB; have HO103 := n0_; have HB := n1_; clear n0_ n1_; (try clear hb)) | ((with_reducible refine gate_dst (N := 1) rfl ?_); (try (refine gate_guard (by rfl) ?_; dsimp only)); refine bxW 1 (cs := #[.int .i64 0, .int .i64 0]) (t := 35) ?_; intro gb107 hg w16 hbox hb; have n0_ := A_ (Kd.R_below (rU HO103.out) hb); have n1_ := A_ (below_step (bW0 HB.out) hb); have n2_ := A_ (hbox); have n3_ := A_ ((szG hg (bW0 HB.out))); have n4_ := A_ ((szG hg (bW0 HB.out))); clear HO103; clear HB; have HO103 := n0_; have HB := n1_; have BK107 := n2_; have GW107 := n3_; have GE107 := n4_; clear n0_ n1_ n2_ n3_ n4_; clear hb hbox hg; have hcz17_0 : w16.cell? ⟨gb107, 0, none⟩ = some (.int .i64 0) := (blk_cell BK107.out 0).trans rfl; have hcz17_1 : w16.cell? ⟨gb107, 1, none⟩ = some (.int .i64 0) := (blk_cell BK107.out 1).trans rfl; have hfz17_0 := blk_frozen BK107.out 0; have hfz17_1 := blk_frozen BK107.out 1) | ((with_reducible refine gate_dst (N := 15) rfl ?_); (try (refine gate_guard (by rfl) ?_; dsimp only)); refine Kd.R_lit (Kd.int .i64) _ 3 ?hg (N := 15) ?hd (xs := ([2, 4, 4] : List Int)) (inner := [.int .i64 2, .int .i64 4, .int .i64 4]) (ok := fun _ => True) (okp := fun _ => True) ?hr ?hp (fun _ hk => hk) trivial (Below.refl _ _) (Nat.le_refl _) (by simp) ?_; (case hd => rfl); (case hg => rfl); (case hr => first | (go_simp; done) | (go_simp; rfl)); (case hp => exact (Reps.one (show Kd.M (Kd.int .i64) _ _ _ 2 [.int .i64 2] from rfl) (Reps.one (show Kd.M (Kd.int .i64) _ _ _ 4 [.int .i64 4] from rfl) (Reps.one (show Kd.M (Kd.int .i64) _ _ _ 4 [.int .i64 4] from rfl) (Reps.none _ _))))); intro v109 w18 ho19 hb hg_ hnew_; clear hg_ hnew_; (first | rw [← Ny108.out] at ho19 | (simp only [Int.reduceToNat] at ho19; rw [← Ny108.out] at ho19)); have n0_ := A_ (Kd.R_elder' (by (with_reducible repeat (first | apply Kd.R_alloc | apply Kd.R_drewN | apply Kd.R_drew)); exact (Kd.R_mono (Kd.R_far (p := ⟨gb107, 1, none⟩) (Kd.R_far (p := ⟨gb107, 0, none⟩) (Kd.R_types HO103.out BK107.out (by decide)) (fun _ hk => hk.2) (.int .i64 t104)) (fun _ hk => hk.2) (.int .i64 t105)) (fun _ h_ => h_.1))) (Kd.R_base ho19) hb); have n1_ := A_ (Kd.R_lower (Kd.R_new' ho19 (Kd.R_lt (by (with_reducible repeat (first | apply Kd.R_alloc | apply Kd.R_drewN | apply Kd.R_drew)); exact (Kd.R_mono (Kd.R_far (p := ⟨gb107, 1, none⟩) (Kd.R_far (p := ⟨gb107, 0, none⟩) (Kd.R_types HO103.out BK107.out (by decide)) (fun _ hk => hk.2) (.int .i64 t104)) (fun _ hk => hk.2) (.int .i64 t105)) (fun _ h_ => h_.1))))) (below_size (bW1 HB.out GE107.out))); have n2_ := A_ (blk_below (g := gb107) (o := .cells #[.int .i64 t104, .int .i64 t105] 35 (0, 0)) (by (with_reducible repeat (first | refine blk_drewN ?_ _ | refine blk_drew ?_ | refine blk_alloc ?_ _)); refine blk_put (cs := #[.int .i64 t104, .int .i64 0]) ?_ 1 _ rfl; (with_reducible repeat (first | refine blk_drewN ?_ _ | refine blk_drew ?_ | refine blk_alloc ?_ _)); refine blk_put (cs := #[.int .i64 0, .int .i64 0]) ?_ 0 _ rfl; exact bkU BK107) hb); have n3_ := A_ (below_step (bW1 HB.out GE107.out) hb); clear HO103; clear BK107; clear HB; have HO103 := n0_; have HO110 := n1_; have BK107 := n2_; have HB := n3_; clear n0_ n1_ n2_ n3_; clear hb ho19; obtain ⟨Ao20, co20, eo20⟩ := Kd.R_slice HO110.out; subst eo20) | ((with_reducible refine gate_callee (f := 16) rfl ?_); refine goesW_ (some 16) Try.func16 #[.slice Ao20 y108.length co20] ?_; (with_reducible refine (ice_ByHalves.calls k _ _ y108 t111 t112 _ ?side1 ?side2 A2.out).mono ?_); (case side1 => exact cU (Kd.R_reads' HO110.out).2.2); (case side2 => exact (Kd.R_reads' HO110.out).2.1); rintro e w21 ⟨v113, rfl, ho0, hb⟩; refine ⟨_, rfl, ?_⟩; have n0_ := A_ (Kd.R_elder' (rU HO103.out) (Kd.R_base ho0) hb); have n1_ := A_ (Kd.R_elder' (rU HO110.out) (Kd.R_base ho0) hb); have n2_ := A_ (Kd.R_lower (Kd.R_new' (Kd.R_new' ho0 (Kd.R_lt (rU HO103.out))) (Kd.R_lt (rU HO110.out))) (below_size (bW1 HB.out GE107.out))); have n3_ := A_ (bkB BK107 hb); have n4_ := A_ (below_step (bW1 HB.out GE107.out) hb); clear HO103; clear HO110; clear BK107; clear HB; have HO103 := n0_; have HO110 := n1_; have HO114 := n2_; have BK107 := n3_; have HB := n4_; clear n0_ n1_ n2_ n3_ n4_; (try clear hb); (try clear ho0)) | ((with_reducible refine gate_dst (N := 20) rfl ?_); (try (refine gate_guard (by rfl) ?_; dsimp only)); refine Kd.R_lit (Kd.int .i64) _ 3 ?hg (N := 20) ?hd (xs := ([1, 8] : List Int)) (inner := [.int .i64 1, .int .i64 8]) (ok := fun _ => True) (okp := fun _ => True) ?hr ?hp (fun _ hk => hk) trivial (Below.refl _ _) (Nat.le_refl _) (by simp) ?_; (case hd => rfl); (case hg => rfl); (case hr => first | (go_simp; done) | (go_simp; rfl)); (case hp => exact (Reps.one (show Kd.M (Kd.int .i64) _ _ _ 1 [.int .i64 1] from rfl) (Reps.one (show Kd.M (Kd.int .i64) _ _ _ 8 [.int .i64 8] from rfl) (Reps.none _ _)))); intro v116 w22 ho23 hb hg_ hnew_; clear hg_ hnew_; (first | rw [← Ny115.out] at ho23 | (simp only [Int.reduceToNat] at ho23; rw [← Ny115.out] at ho23)); have n0_ := A_ (Kd.R_elder' (rU HO103.out) (Kd.R_base ho23) hb); have n1_ := A_ (Kd.R_elder' (rU HO110.out) (Kd.R_base ho23) hb); have n2_ := A_ (Kd.R_elder' (rU HO114.out) (Kd.R_base ho23) hb); have n3_ := A_ (Kd.R_lower (Kd.R_new' (Kd.R_new' (Kd.R_new' ho23 (Kd.R_lt (rU HO103.out))) (Kd.R_lt (rU HO110.out))) (Kd.R_lt (rU HO114.out))) (below_size (bW1 HB.out GE107.out))); have n4_ := A_ (bkB BK107 hb); have n5_ := A_ (below_step (bW1 HB.out GE107.out) hb); clear HO103; clear HO110; clear HO114; clear BK107; clear HB; have HO103 := n0_; have HO110 := n1_; have HO114 := n2_; have HO117 := n3_; have BK107 := n4_; have HB := n5_; clear n0_ n1_ n2_ n3_ n4_ n5_; clear hb ho23; obtain ⟨Ao24, co24, eo24⟩ := Kd.R_slice HO117.out; subst eo24) | ((with_reducible refine gate_callee (f := 43) rfl ?_); refine goesW_ (some 21) Try.func43 #[.slice Ao24 y115.length co24] ?_; (with_reducible refine (ice_Lasts.calls k _ _ y115 t118 t119 _ ?side1 ?side2 A3.out).mono ?_); (case side1 => exact cU (Kd.R_reads' HO117.out).2.2); (case side2 => exact (Kd.R_reads' HO117.out).2.1); rintro e w25 ⟨rfl, hb⟩; refine ⟨_, rfl, ?_⟩; have n0_ := A_ (Kd.R_below (rU HO103.out) hb); have n1_ := A_ (Kd.R_below (rU HO110.out) hb); have n2_ := A_ (Kd.R_below (rU HO114.out) hb); have n3_ := A_ (Kd.R_below (rU HO117.out) hb); have n4_ := A_ (bkB BK107 hb); have n5_ := A_ (below_step (bW1 HB.out GE107.out) hb); clear HO103; clear HO110; clear HO114; clear HO117; clear BK107; clear HB; have HO103 := n0_; have HO110 := n1_; have HO114 := n2_; have HO117 := n3_; have BK107 := n4_; have HB := n5_; clear n0_ n1_ n2_ n3_ n4_ n5_; (try clear hb)) | ((with_reducible refine gate_dst (N := 25) rfl ?_); (try (refine gate_guard (by rfl) ?_; dsimp only)); refine Kd.R_lit (Kd.int .i64) _ 3 ?hg (N := 25) ?hd (xs := ([2, 3, 6] : List Int)) (inner := [.int .i64 2, .int .i64 3, .int .i64 6]) (ok := fun _ => True) (okp := fun _ => True) ?hr ?hp (fun _ hk => hk) trivial (Below.refl _ _) (Nat.le_refl _) (by simp) ?_; (case hd => rfl); (case hg => rfl); (case hr => first | (go_simp; done) | (go_simp; rfl)); (case hp => exact (Reps.one (show Kd.M (Kd.int .i64) _ _ _ 2 [.int .i64 2] from rfl) (Reps.one (show Kd.M (Kd.int .i64) _ _ _ 3 [.int .i64 3] from rfl) (Reps.one (show Kd.M (Kd.int .i64) _ _ _ 6 [.int .i64 6] from rfl) (Reps.none _ _))))); intro v121 w26 ho27 hb hg_ hnew_; clear hg_ hnew_; (first | rw [← Ny120.out] at ho27 | (simp only [Int.reduceToNat] at ho27; rw [← Ny120.out] at ho27)); have n0_ := A_ (Kd.R_elder' (rU HO103.out) (Kd.R_base ho27) hb); have n1_ := A_ (Kd.R_elder' (rU HO110.out) (Kd.R_base ho27) hb); have n2_ := A_ (Kd.R_elder' (rU HO114.out) (Kd.R_base ho27) hb); have n3_ := A_ (Kd.R_elder' (rU HO117.out) (Kd.R_base ho27) hb); have n4_ := A_ (Kd.R_lower (Kd.R_new' (Kd.R_new' (Kd.R_new' (Kd.R_new' ho27 (Kd.R_lt (rU HO103.out))) (Kd.R_lt (rU HO110.out))) (Kd.R_lt (rU HO114.out))) (Kd.R_lt (rU HO117.out))) (below_size (bW1 HB.out GE107.out))); have n5_ := A_ (bkB BK107 hb); have n6_ := A_ (below_step (bW1 HB.out GE107.out) hb); clear HO103; clear HO110; clear HO114; clear HO117; clear BK107; clear HB; have HO103 := n0_; have HO110 := n1_; have HO114 := n2_; have HO117 := n3_; have HO122 := n4_; have BK107 := n5_; have HB := n6_; clear n0_ n1_ n2_ n3_ n4_ n5_ n6_; clear hb ho27; obtain ⟨Ao28, co28, eo28⟩ := Kd.R_slice HO122.out; subst eo28) | ((with_reducible refine gate_callee (f := 43) rfl ?_); refine goesW_ (some 26) Try.func43 #[.slice Ao28 y120.length co28] ?_; (with_reducible refine (ice_Lasts.calls k _ _ y120 t123 t124 _ ?side1 ?side2 A4.out).mono ?_); (case side1 => exact cU (Kd.R_reads' HO122.out).2.2); (case side2 => exact (Kd.R_reads' HO122.out).2.1); rintro e w29 ⟨rfl, hb⟩; refine ⟨_, rfl, ?_⟩; have n0_ := A_ (Kd.R_below (rU HO103.out) hb); have n1_ := A_ (Kd.R_below (rU HO110.out) hb); have n2_ := A_ (Kd.R_below (rU HO114.out) hb); have n3_ := A_ (Kd.R_below (rU HO117.out) hb); have n4_ := A_ (Kd.R_below (rU HO122.out) hb); have n5_ := A_ (bkB BK107 hb); have n6_ := A_ (below_step (bW1 HB.out GE107.out) hb); clear HO103; clear HO110; clear HO114; clear HO117; clear HO122; clear BK107; clear HB; have HO103 := n0_; have HO110 := n1_; have HO114 := n2_; have HO117 := n3_; have HO122 := n4_; have BK107 := n5_; have HB := n6_; clear n0_ n1_ n2_ n3_ n4_ n5_ n6_; (try clear hb); have hcz30_0 : w29.cell? ⟨gb107, 0, none⟩ = some (.int .i64 t104) := (blk_cell BK107.out 0).trans rfl; have hcz30_1 : w29.cell? ⟨gb107, 1, none⟩ = some (.int .i64 t105) := (blk_cell BK107.out 1).trans rfl; have hfz30_0 := blk_frozen BK107.out 0; have hfz30_1 := blk_frozen BK107.out 1) | ((with_reducible refine gate_dst (N := 50) rfl ?_); (try (refine gate_guard (by rfl) ?_; dsimp only)); refine Kd.R_lit (Kd.int .i64) _ 3 ?hg (N := 50) ?hd (xs := ([0, 1, 0, 2, 0, 1, 0, 2] : List Int)) (inner := [.int .i64 0, .int .i64 1, .int .i64 0, .int .i64 2, .int .i64 0, .int .i64 1, .int .i64 0, .int .i64 2]) (ok := fun _ => True) (okp := fun _ => True) ?hr ?hp (fun _ hk => hk) trivial (Below.refl _ _) (Nat.le_refl _) (by simp) ?_; (case hd => rfl); (case hg => rfl); (case hr => first | (go_simp; done) | (go_simp; rfl)); (case hp => exact (Reps.one (show Kd.M (Kd.int .i64) _ _ _ 0 [.int .i64 0] from rfl) (Reps.one (show Kd.M (Kd.int .i64) _ _ _ 1 [.int .i64 1] from rfl) (Reps.one (show Kd.M (Kd.int .i64) _ _ _ 0 [.int .i64 0] from rfl) (Reps.one (show Kd.M (Kd.int .i64) _ _ _ 2 [.int .i64 2] from rfl) (Reps.one (show Kd.M (Kd.int .i64) _ _ _ 0 [.int .i64 0] from rfl) (Reps.one (show Kd.M (Kd.int .i64) _ _ _ 1 [.int .i64 1] from rfl) (Reps.one (show Kd.M (Kd.int .i64) _ _ _ 0 [.int .i64 0] from rfl) (Reps.one (show Kd.M (Kd.int .i64) _ _ _ 2 [.int .i64 2] from rfl) (Reps.none _ _)))))))))); intro v126 w31 ho32 hb hg_ hnew_; clear hg_ hnew_; (first | rw [← Ny125.out] at ho32 | (simp only [Int.reduceToNat] at ho32; rw [← Ny125.out] at ho32)); have n0_ := A_ (Kd.R_elder' (rU HO103.out) (Kd.R_base ho32) hb); have n1_ := A_ (Kd.R_elder' (rU HO110.out) (Kd.R_base ho32) hb); have n2_ := A_ (Kd.R_elder' (rU HO114.out) (Kd.R_base ho32) hb); have n3_ := A_ (Kd.R_elder' (rU HO117.out) (Kd.R_base ho32) hb); have n4_ := A_ (Kd.R_elder' (rU HO122.out) (Kd.R_base ho32) hb); have n5_ := A_ (Kd.R_lower (Kd.R_new' (Kd.R_new' (Kd.R_new' (Kd.R_new' (Kd.R_new' ho32 (Kd.R_lt (rU HO103.out))) (Kd.R_lt (rU HO110.out))) (Kd.R_lt (rU HO114.out))) (Kd.R_lt (rU HO117.out))) (Kd.R_lt (rU HO122.out))) (below_size (bW1 HB.out GE107.out))); have n6_ := A_ (bkB BK107 hb); have n7_ := A_ (below_step (bW1 HB.out GE107.out) hb); clear HO103; clear HO110; clear HO114; clear HO117; clear HO122; clear BK107; clear HB; have HO103 := n0_; have HO110 := n1_; have HO114 := n2_; have HO117 := n3_; have HO122 := n4_; have HO127 := n5_; have BK107 := n6_; have HB := n7_; clear n0_ n1_ n2_ n3_ n4_ n5_ n6_ n7_; clear hb ho32; obtain ⟨Ao33, co33, eo33⟩ := Kd.R_slice HO114.out; subst eo33; obtain ⟨Ao34, co34, eo34⟩ := Kd.R_slice HO127.out; subst eo34) | (go_at_call 15; (with_reducible refine (dropperlaw08_SameInts.calls k _ _ t111 _ _ y125 true _ ?side1 ?side2 ?side3 ?side4 A10.out).mono ?_); (case side1 => exact cU (Kd.R_reads' HO114.out).2.2); (case side2 => exact (Kd.R_reads' HO114.out).2.1); (case side3 => exact cU (Kd.R_reads' HO127.out).2.2); (case side4 => exact (Kd.R_reads' HO127.out).2.1); rintro e w' ⟨rfl, ⟨nd, rfl⟩⟩))
 go_ret
 exact ⟨eQ, by repeat (first | (with_reducible first | exact HB.out | apply below_alloc | apply pw_below_drewN | apply below_drew1 | refine below_set ?_ GE107.out) | exact HB.out)⟩
set_option maxRecDepth 100000 in
theorem dropperlaw08_Awake.is_true (k : Nat) (r : Bool) (h : dropperlaw08_Awake.f k = some r) : r = true := by
 have h0 : dropperlaw08_Awake.f 300 = some true := by decide +kernel
 rcases Nat.le_total k 300 with hk | hk
 ·exact Option.some.inj ((at_rounds (fun k => dropperlaw08_Awake.mono k) hk h).symm.trans h0)
 ·exact Option.some.inj (h.symm.trans (at_rounds (fun k => dropperlaw08_Awake.mono k) hk h0))
theorem dropperlaw08_Awake.calls (k : Nat)  (r : Bool) (w : World) (h : dropperlaw08_Awake.f k = some r) :
  Calls Try.prog 12 #[] w fun e w' => e = .returned (.bool r) ∧ Below w.heap.size w w' := dropperlaw08_Awake.calls_true k r w h (dropperlaw08_Awake.is_true k r h)
end Go.Proofs.Ythbpibdfookbmaa.G
end
section
namespace Go.Proofs.Ythbpibdfookbmaa.G
open Go.RowKit Go.Proofs.YthbpibdfookbmaaW.PrintWords Go.Proofs.YthbpibdfookbmaaW.PrintLast Go.Proofs.YthbpibdfookbmaaW.PrintMore
attribute [local go_sem] max2_int min2_int max_two min_two max_three min_three max_four min_four
set_option linter.unusedVariables false
set_option linter.unusedSimpArgs false
mutual
def droppertop_TopIce.j0 : Nat → List Int → List Int → Bool → Option (Bool)
 | 0, _, _, _ => none
 | k + 1, x0, x1, x37 => if x37 = true then ((dropperlaw08_Awake.f k).bind fun t606 => (some t606)) else ((ice_Lasts.f k x0).bind fun bt607 => ((ice_Rota.f k x0).bind fun bt609 => ((ice_Density.f k x0).bind fun bt613 => (if bt613.2.2 = 0 then (if ((bt607.2 == 5) != (bt609.2 == 0)) = true then (droppertop_TopIce.j1 k x0 x1 bt607.1 bt607.2 bt609.1 bt609.2 true bt613.1 bt613.2.1) else (if bt607.2 = 0 then (if bt609.2 = 0 then (droppertop_TopIce.j1 k x0 x1 bt607.1 bt607.2 bt609.1 bt609.2 false bt613.1 bt613.2.1) else (droppertop_TopIce.j1 k x0 x1 bt607.1 bt607.2 bt609.1 bt609.2 (bt609.2 != 5) bt613.1 bt613.2.1)) else (if bt607.2 = 5 then (if bt609.2 = 0 then (droppertop_TopIce.j1 k x0 x1 bt607.1 bt607.2 bt609.1 bt609.2 false bt613.1 bt613.2.1) else (droppertop_TopIce.j1 k x0 x1 bt607.1 bt607.2 bt609.1 bt609.2 (bt609.2 != 5) bt613.1 bt613.2.1)) else (droppertop_TopIce.j1 k x0 x1 bt607.1 bt607.2 bt609.1 bt609.2 true bt613.1 bt613.2.1)))) else (droppertop_TopIce.j1 k x0 x1 bt607.1 bt607.2 bt609.1 bt609.2 true bt613.1 bt613.2.1)))))
def droppertop_TopIce.j1 : Nat → List Int → List Int → Int → Int → List Int → Int → Bool → Int → Int → Option (Bool)
 | 0, _, _, _, _, _, _, _, _, _ => none
 | k + 1, x0, x1, x5, x6, x7, x8, x78, x617000, x617001 => if x78 = true then (some false) else ((ice_Halves.f k x0).bind fun bt617 => ((ice_Density.f k bt617.1).bind fun bt621 => ((ice_ByHalves.f k x0).bind fun bt625 => (if bt617.2 = 0 then (if bt621.2.2 = 0 then (if ((bt625.2 == 0) != (decide (bt621.1 ≤ bt621.2.1))) = true then (droppertop_TopIce.j2 k x0 x1 x5 x6 x7 x8 bt625.1 bt625.2 true x617000 x617001) else (if bt625.2 = 0 then (if (wrap64 (2 * x617000)) ≤ x617001 then (droppertop_TopIce.j2 k x0 x1 x5 x6 x7 x8 bt625.1 bt625.2 (bt625.2 != 0) x617000 x617001) else (droppertop_TopIce.j2 k x0 x1 x5 x6 x7 x8 bt625.1 bt625.2 false x617000 x617001)) else (if bt625.2 = 5 then (if (wrap64 (2 * x617000)) ≤ x617001 then (droppertop_TopIce.j2 k x0 x1 x5 x6 x7 x8 bt625.1 bt625.2 (bt625.2 != 0) x617000 x617001) else (droppertop_TopIce.j2 k x0 x1 x5 x6 x7 x8 bt625.1 bt625.2 false x617000 x617001)) else (droppertop_TopIce.j2 k x0 x1 x5 x6 x7 x8 bt625.1 bt625.2 true x617000 x617001)))) else (droppertop_TopIce.j2 k x0 x1 x5 x6 x7 x8 bt625.1 bt625.2 true x617000 x617001)) else (droppertop_TopIce.j2 k x0 x1 x5 x6 x7 x8 bt625.1 bt625.2 true x617000 x617001)))))
def droppertop_TopIce.j2 : Nat → List Int → List Int → Int → Int → List Int → Int → List Int → Int → Bool → Int → Int → Option (Bool)
 | 0, _, _, _, _, _, _, _, _, _, _, _ => none
 | k + 1, x0, x1, x5, x6, x7, x8, x14, x15, x129, x617000, x617001 => if x129 = true then (some false) else ((some (([x1] : List (List Int)) : List (List Int))).bind fun y629 => (if x8 = 0 then (if y629.length < 5864062014805 then (droppertop_TopIce.j3 k x0 x5 x6 x8 x14 x15 (y629 ++ [x7]) x617000 x617001) else (none)) else (droppertop_TopIce.j3 k x0 x5 x6 x8 x14 x15 y629 x617000 x617001)))
def droppertop_TopIce.j3 : Nat → List Int → Int → Int → Int → List Int → Int → List (List Int) → Int → Int → Option (Bool)
 | 0, _, _, _, _, _, _, _, _, _ => none
 | k + 1, x0, x5, x6, x8, x14, x15, x16, x617000, x617001 => if x15 = 0 then (if x16.length < 5864062014805 then (droppertop_TopIce.j4 k x0 x5 x6 x8 (x16 ++ [x14]) x617000 x617001) else (none)) else (droppertop_TopIce.j4 k x0 x5 x6 x8 x16 x617000 x617001)
def droppertop_TopIce.j4 : Nat → List Int → Int → Int → Int → List (List Int) → Int → Int → Option (Bool)
 | 0, _, _, _, _, _, _, _ => none
 | k + 1, x0, x5, x6, x8, x16, x617000, x617001 => droppertop_TopIce.l0 k x0 x5 x6 x8 x16 0 x617000 x617001
def droppertop_TopIce.l0 : Nat → List Int → Int → Int → Int → List (List Int) → Int → Int → Int → Option (Bool)
 | 0, _, _, _, _, _, _, _, _ => none
 | k + 1, x0, x5, x6, x8, x16, x17, x617000, x617001 => if x17 < (x16.length : Int) then (if 0 ≤ x17 then ((ice_IsRota.f k x0 (rd_L1 x16 x17)).bind fun bt639 => (if bt639.2 = 0 then (if x17 > 0 then (droppertop_TopIce.j6 k x0 x5 x6 x8 x16 x17 bt639.1 (!bt639.1) x617000 x617001) else (droppertop_TopIce.j6 k x0 x5 x6 x8 x16 x17 bt639.1 false x617000 x617001)) else (droppertop_TopIce.j6 k x0 x5 x6 x8 x16 x17 bt639.1 true x617000 x617001))) else (none)) else (if x6 = 5 then ((ice_First.f k x0 200).bind fun bt656 => (if bt656.2 = 0 then (if (bt656.1.length : Int) = 200 then ((dropperlaw08_Awake.f k).bind fun t660 => (some t660)) else (some false)) else (some false))) else (if x5 > 199 then ((dropperlaw08_Awake.f k).bind fun t661 => (some t661)) else ((ice_First.f k x0 x5).bind fun bt662 => ((ice_First.f k x0 (wrap64 (x5 + 1))).bind fun bt666 => (if bt662.2 = 0 then (if (bt662.1.length : Int) = x5 then ((droppertop_goes.f k x0 bt662.1).bind fun t670 => (if t670 = true then (if bt666.2 = 5 then ((dropperlaw08_Awake.f k).bind fun t671 => (some t671)) else (some false)) else (some false))) else (some false)) else (some false))))))
def droppertop_TopIce.j6 : Nat → List Int → Int → Int → Int → List (List Int) → Int → Bool → Bool → Int → Int → Option (Bool)
 | 0, _, _, _, _, _, _, _, _, _, _ => none
 | k + 1, x0, x5, x6, x8, x16, x17, x18, x168, x617000, x617001 => if x168 = true then (some false) else (if x18 = true then (if 0 ≤ x17 then (if x17 < (x16.length : Int) then ((ice_Waits.f k x0 (rd_L1 x16 x17)).bind fun bt642 => ((ice_Turned.f k x0 (rd_L1 x16 x17)).bind fun bt647 => ((ice_IsRota.f k x0 bt647.1).bind fun bt651 => (if bt642.2 = 0 then (if bt647.2 = 0 then (if bt651.2 = 0 then (if bt651.1 = true then (if x8 = 0 then (if x617000 > x617001 then (droppertop_TopIce.j7 k x0 x5 x6 x8 x16 x17 bt642.1 true x617000 x617001) else (droppertop_TopIce.j7 k x0 x5 x6 x8 x16 x17 bt642.1 ((bt642.1.length : Int) != (x0.length : Int)) x617000 x617001)) else (droppertop_TopIce.j7 k x0 x5 x6 x8 x16 x17 bt642.1 true x617000 x617001)) else (droppertop_TopIce.j7 k x0 x5 x6 x8 x16 x17 bt642.1 true x617000 x617001)) else (droppertop_TopIce.j7 k x0 x5 x6 x8 x16 x17 bt642.1 true x617000 x617001)) else (droppertop_TopIce.j7 k x0 x5 x6 x8 x16 x17 bt642.1 true x617000 x617001)) else (droppertop_TopIce.j7 k x0 x5 x6 x8 x16 x17 bt642.1 true x617000 x617001))))) else (none)) else (none)) else (droppertop_TopIce.l0 k x0 x5 x6 x8 x16 (wrap64 (x17 + 1)) x617000 x617001))
def droppertop_TopIce.j7 : Nat → List Int → Int → Int → Int → List (List Int) → Int → List Int → Bool → Int → Int → Option (Bool)
 | 0, _, _, _, _, _, _, _, _, _, _ => none
 | k + 1, x0, x5, x6, x8, x16, x17, x20, x226, x617000, x617001 => if x226 = true then (some false) else (droppertop_TopIce.l1 k x0 x5 x6 x8 x16 x17 x20 0 x617000 x617001)
def droppertop_TopIce.l1 : Nat → List Int → Int → Int → Int → List (List Int) → Int → List Int → Int → Int → Int → Option (Bool)
 | 0, _, _, _, _, _, _, _, _, _, _ => none
 | k + 1, x0, x5, x6, x8, x16, x17, x20, x25, x617000, x617001 => if x25 < (x0.length : Int) then (if 0 ≤ x25 then (if x25 < (x20.length : Int) then (if (rd x20 x25) < 1 then (some false) else (if (rd x20 x25) > (rd x0 x25) then (some false) else (droppertop_TopIce.l1 k x0 x5 x6 x8 x16 x17 x20 (wrap64 (x25 + 1)) x617000 x617001))) else (none)) else (none)) else (droppertop_TopIce.l0 k x0 x5 x6 x8 x16 (wrap64 (x17 + 1)) x617000 x617001)
end
def droppertop_TopIce.f (k : Nat) (l0 : List Int) (l1 : List Int) : Option (Bool) := (dropperref08_Valid.f k l0).bind fun t601 => (if t601 = true then ((dropperlaw08_Many.f k l0 (([l1] : List (List Int)))).bind fun t605 => (droppertop_TopIce.j0 k l0 l1 t605)) else (droppertop_TopIce.j0 k l0 l1 true))
theorem droppertop_TopIce.mono_l : ∀ k, (∀ y0 y1 y2, LeO (droppertop_TopIce.j0 k y0 y1 y2) (droppertop_TopIce.j0 (k + 1) y0 y1 y2)) ∧ (∀ y0 y1 y2 y3 y4 y5 y6 y7 y8, LeO (droppertop_TopIce.j1 k y0 y1 y2 y3 y4 y5 y6 y7 y8) (droppertop_TopIce.j1 (k + 1) y0 y1 y2 y3 y4 y5 y6 y7 y8)) ∧ (∀ y0 y1 y2 y3 y4 y5 y6 y7 y8 y9 y10, LeO (droppertop_TopIce.j2 k y0 y1 y2 y3 y4 y5 y6 y7 y8 y9 y10) (droppertop_TopIce.j2 (k + 1) y0 y1 y2 y3 y4 y5 y6 y7 y8 y9 y10)) ∧ (∀ y0 y1 y2 y3 y4 y5 y6 y7 y8, LeO (droppertop_TopIce.j3 k y0 y1 y2 y3 y4 y5 y6 y7 y8) (droppertop_TopIce.j3 (k + 1) y0 y1 y2 y3 y4 y5 y6 y7 y8)) ∧ (∀ y0 y1 y2 y3 y4 y5 y6, LeO (droppertop_TopIce.j4 k y0 y1 y2 y3 y4 y5 y6) (droppertop_TopIce.j4 (k + 1) y0 y1 y2 y3 y4 y5 y6)) ∧ (∀ y0 y1 y2 y3 y4 y5 y6 y7, LeO (droppertop_TopIce.l0 k y0 y1 y2 y3 y4 y5 y6 y7) (droppertop_TopIce.l0 (k + 1) y0 y1 y2 y3 y4 y5 y6 y7)) ∧ (∀ y0 y1 y2 y3 y4 y5 y6 y7 y8 y9, LeO (droppertop_TopIce.j6 k y0 y1 y2 y3 y4 y5 y6 y7 y8 y9) (droppertop_TopIce.j6 (k + 1) y0 y1 y2 y3 y4 y5 y6 y7 y8 y9)) ∧ (∀ y0 y1 y2 y3 y4 y5 y6 y7 y8 y9, LeO (droppertop_TopIce.j7 k y0 y1 y2 y3 y4 y5 y6 y7 y8 y9) (droppertop_TopIce.j7 (k + 1) y0 y1 y2 y3 y4 y5 y6 y7 y8 y9)) ∧ (∀ y0 y1 y2 y3 y4 y5 y6 y7 y8 y9, LeO (droppertop_TopIce.l1 k y0 y1 y2 y3 y4 y5 y6 y7 y8 y9) (droppertop_TopIce.l1 (k + 1) y0 y1 y2 y3 y4 y5 y6 y7 y8 y9))
 | 0 => ⟨fun _ _ _ r h => by simp [droppertop_TopIce.j0] at h, fun _ _ _ _ _ _ _ _ _ r h => by simp [droppertop_TopIce.j1] at h, fun _ _ _ _ _ _ _ _ _ _ _ r h => by simp [droppertop_TopIce.j2] at h, fun _ _ _ _ _ _ _ _ _ r h => by simp [droppertop_TopIce.j3] at h, fun _ _ _ _ _ _ _ r h => by simp [droppertop_TopIce.j4] at h, fun _ _ _ _ _ _ _ _ r h => by simp [droppertop_TopIce.l0] at h, fun _ _ _ _ _ _ _ _ _ _ r h => by simp [droppertop_TopIce.j6] at h, fun _ _ _ _ _ _ _ _ _ _ r h => by simp [droppertop_TopIce.j7] at h, fun _ _ _ _ _ _ _ _ _ _ r h => by simp [droppertop_TopIce.l1] at h⟩
 | k + 1 => by
  obtain ⟨ih0, ih1, ih2, ih3, ih4, ih5, ih6, ih7, ih8⟩ := droppertop_TopIce.mono_l k
  refine ⟨?_, ?_, ?_, ?_, ?_, ?_, ?_, ?_, ?_⟩
  intro y0 y1 y2; unfold droppertop_TopIce.j0; rotate_left
  intro y0 y1 y2 y3 y4 y5 y6 y7 y8; unfold droppertop_TopIce.j1; rotate_left
  intro y0 y1 y2 y3 y4 y5 y6 y7 y8 y9 y10; unfold droppertop_TopIce.j2; rotate_left
  intro y0 y1 y2 y3 y4 y5 y6 y7 y8; unfold droppertop_TopIce.j3; rotate_left
  intro y0 y1 y2 y3 y4 y5 y6; unfold droppertop_TopIce.j4; rotate_left
  intro y0 y1 y2 y3 y4 y5 y6 y7; unfold droppertop_TopIce.l0; rotate_left
  intro y0 y1 y2 y3 y4 y5 y6 y7 y8 y9; unfold droppertop_TopIce.j6; rotate_left
  intro y0 y1 y2 y3 y4 y5 y6 y7 y8 y9; unfold droppertop_TopIce.j7; rotate_left
  intro y0 y1 y2 y3 y4 y5 y6 y7 y8 y9; unfold droppertop_TopIce.l1; rotate_left
  all_goals repeat' first
   | (with_reducible exact ih0 _ _ _)
   | (with_reducible exact ih1 _ _ _ _ _ _ _ _ _)
   | (with_reducible exact ih2 _ _ _ _ _ _ _ _ _ _ _)
   | (with_reducible exact ih3 _ _ _ _ _ _ _ _ _)
   | (with_reducible exact ih4 _ _ _ _ _ _ _)
   | (with_reducible exact ih5 _ _ _ _ _ _ _ _)
   | (with_reducible exact ih6 _ _ _ _ _ _ _ _ _ _)
   | (with_reducible exact ih7 _ _ _ _ _ _ _ _ _ _)
   | (with_reducible exact ih8 _ _ _ _ _ _ _ _ _ _)
   | (with_reducible exact dropperlaw08_Awake.mono _)
   | (with_reducible exact dropperlaw08_Many.mono _ _ _)
   | (with_reducible exact dropperref08_Valid.mono _ _)
   | (with_reducible exact droppertop_goes.mono _ _ _)
   | (with_reducible exact ice_ByHalves.mono _ _)
   | (with_reducible exact ice_Density.mono _ _)
   | (with_reducible exact ice_First.mono _ _ _)
   | (with_reducible exact ice_Halves.mono _ _)
   | (with_reducible exact ice_IsRota.mono _ _ _)
   | (with_reducible exact ice_Lasts.mono _ _)
   | (with_reducible exact ice_Rota.mono _ _)
   | (with_reducible exact ice_Turned.mono _ _ _)
   | (with_reducible exact ice_Waits.mono _ _ _)
   | (with_reducible exact LeO.refl _)
   | (with_reducible exact LeO.none _)
   | (with_reducible refine LeO.ite ?_ ?_)
   | (with_reducible refine LeO.bind ?_ (fun _ => ?_))
   | exact ih0 _ _ _
   | exact ih1 _ _ _ _ _ _ _ _ _
   | exact ih2 _ _ _ _ _ _ _ _ _ _ _
   | exact ih3 _ _ _ _ _ _ _ _ _
   | exact ih4 _ _ _ _ _ _ _
   | exact ih5 _ _ _ _ _ _ _ _
   | exact ih6 _ _ _ _ _ _ _ _ _ _
   | exact ih7 _ _ _ _ _ _ _ _ _ _
   | exact ih8 _ _ _ _ _ _ _ _ _ _
   | exact dropperlaw08_Awake.mono _
   | exact dropperlaw08_Many.mono _ _ _
   | exact dropperref08_Valid.mono _ _
   | exact droppertop_goes.mono _ _ _
   | exact ice_ByHalves.mono _ _
   | exact ice_Density.mono _ _
   | exact ice_First.mono _ _ _
   | exact ice_Halves.mono _ _
   | exact ice_IsRota.mono _ _ _
   | exact ice_Lasts.mono _ _
   | exact ice_Rota.mono _ _
   | exact ice_Turned.mono _ _ _
   | exact ice_Waits.mono _ _ _
   | exact LeO.none _
   | refine LeO.ite ?_ ?_
   | refine LeO.bind ?_ (fun _ => ?_)
theorem droppertop_TopIce.mono : ∀ a0 a1 k, LeO (droppertop_TopIce.f k a0 a1) (droppertop_TopIce.f (k + 1) a0 a1) := by
 intro a0 a1 k
 obtain ⟨ih0, ih1, ih2, ih3, ih4, ih5, ih6, ih7, ih8⟩ := droppertop_TopIce.mono_l k
 unfold droppertop_TopIce.f
 repeat' first
   | (with_reducible exact ih0 _ _ _)
   | (with_reducible exact ih1 _ _ _ _ _ _ _ _ _)
   | (with_reducible exact ih2 _ _ _ _ _ _ _ _ _ _ _)
   | (with_reducible exact ih3 _ _ _ _ _ _ _ _ _)
   | (with_reducible exact ih4 _ _ _ _ _ _ _)
   | (with_reducible exact ih5 _ _ _ _ _ _ _ _)
   | (with_reducible exact ih6 _ _ _ _ _ _ _ _ _ _)
   | (with_reducible exact ih7 _ _ _ _ _ _ _ _ _ _)
   | (with_reducible exact ih8 _ _ _ _ _ _ _ _ _ _)
   | (with_reducible exact dropperlaw08_Awake.mono _)
   | (with_reducible exact dropperlaw08_Many.mono _ _ _)
   | (with_reducible exact dropperref08_Valid.mono _ _)
   | (with_reducible exact droppertop_goes.mono _ _ _)
   | (with_reducible exact ice_ByHalves.mono _ _)
   | (with_reducible exact ice_Density.mono _ _)
   | (with_reducible exact ice_First.mono _ _ _)
   | (with_reducible exact ice_Halves.mono _ _)
   | (with_reducible exact ice_IsRota.mono _ _ _)
   | (with_reducible exact ice_Lasts.mono _ _)
   | (with_reducible exact ice_Rota.mono _ _)
   | (with_reducible exact ice_Turned.mono _ _ _)
   | (with_reducible exact ice_Waits.mono _ _ _)
   | (with_reducible exact LeO.refl _)
   | (with_reducible exact LeO.none _)
   | (with_reducible refine LeO.ite ?_ ?_)
   | (with_reducible refine LeO.bind ?_ (fun _ => ?_))
   | exact ih0 _ _ _
   | exact ih1 _ _ _ _ _ _ _ _ _
   | exact ih2 _ _ _ _ _ _ _ _ _ _ _
   | exact ih3 _ _ _ _ _ _ _ _ _
   | exact ih4 _ _ _ _ _ _ _
   | exact ih5 _ _ _ _ _ _ _ _
   | exact ih6 _ _ _ _ _ _ _ _ _ _
   | exact ih7 _ _ _ _ _ _ _ _ _ _
   | exact ih8 _ _ _ _ _ _ _ _ _ _
   | exact dropperlaw08_Awake.mono _
   | exact dropperlaw08_Many.mono _ _ _
   | exact dropperref08_Valid.mono _ _
   | exact droppertop_goes.mono _ _ _
   | exact ice_ByHalves.mono _ _
   | exact ice_Density.mono _ _
   | exact ice_First.mono _ _ _
   | exact ice_Halves.mono _ _
   | exact ice_IsRota.mono _ _ _
   | exact ice_Lasts.mono _ _
   | exact ice_Rota.mono _ _
   | exact ice_Turned.mono _ _ _
   | exact ice_Waits.mono _ _ _
   | exact LeO.none _
   | refine LeO.ite ?_ ?_
   | refine LeO.bind ?_ (fun _ => ?_)
end Go.Proofs.Ythbpibdfookbmaa.G
end
