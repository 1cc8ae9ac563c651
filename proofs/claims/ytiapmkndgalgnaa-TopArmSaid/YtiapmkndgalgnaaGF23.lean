-- Written by this session's driver (wip/tools/printmore.py) over the kit's print, with hand-written parts.
import Derived.Test.YtiapmkndgalgnaaGBase
import Derived.Test.YtiapmkndgalgnaaGF51
namespace Go.Proofs.Ytiapmkndgalgnaa.G
open Go.RowKit Go.Proofs.YtiapmkndgalgnaaW.PrintWords Go.Proofs.YtiapmkndgalgnaaW.PrintLast Go.Proofs.YtiapmkndgalgnaaW.PrintMore
attribute [local go_sem] max2_int min2_int max_two min_two max_three min_three max_four min_four   -- for this text's walks alone
set_option linter.unusedVariables false
set_option linter.unusedSimpArgs false

/-! ### arm_Valid: function 23 -/
def arm_Valid.l0 : Nat → Int → List (S73) → Int → Int → Option (Bool)
 | 0, _, _, _, _ => none
 | k + 1, x3, x10, x11, x12 => if x12 < x11 then (if 0 ≤ x12 then (if x12 < (x10.length : Int) then ((arm_within.f (wrap64 (x3 + 1)) ((rd_T73 x10 x12).f0) 100000).bind fun t104 => (if t104 = true then ((arm_within.f (-1000) ((rd_T73 x10 x12).f1) ((rd_T73 x10 x12).f2)).bind fun t105 => (if t105 = true then (if ((rd_T73 x10 x12).f2) > 1000 then (some false) else (arm_Valid.l0 k ((rd_T73 x10 x12).f0) x10 x11 (wrap64 (x12 + 1)))) else (some false))) else (some false))) else (none)) else (none)) else (some true)
def arm_Valid.f (k : Nat) (l0 : List (S73)) : Option (Bool) := (arm_within.f 1 (l0.length : Int) 30).bind fun t101 => (if t101 = true then (arm_Valid.l0 k (-1) l0 (l0.length : Int) 0) else (some false))
theorem arm_Valid.mono_l : ∀ k, (∀ y0 y1 y2 y3, LeO (arm_Valid.l0 k y0 y1 y2 y3) (arm_Valid.l0 (k + 1) y0 y1 y2 y3))
 | 0 => fun _ _ _ _ r h => by simp [arm_Valid.l0] at h
 | k + 1 => by
  have ih0 := arm_Valid.mono_l k
  ·intro y0 y1 y2 y3
   unfold arm_Valid.l0
   repeat' first
   | (with_reducible exact ih0 _ _ _ _)
   | (with_reducible exact LeO.refl _)
   | (with_reducible exact LeO.none _)
   | (with_reducible refine LeO.ite ?_ ?_)
   | (with_reducible refine LeO.bind ?_ (fun _ => ?_))
   | exact ih0 _ _ _ _
   | exact LeO.none _
   | refine LeO.ite ?_ ?_
   | refine LeO.bind ?_ (fun _ => ?_)
theorem arm_Valid.mono : ∀ a0 k, LeO (arm_Valid.f k a0) (arm_Valid.f (k + 1) a0) := by
 intro a0 k
 have ih0 := arm_Valid.mono_l k
 unfold arm_Valid.f
 repeat' first
   | (with_reducible exact ih0 _ _ _ _)
   | (with_reducible exact LeO.refl _)
   | (with_reducible exact LeO.none _)
   | (with_reducible refine LeO.ite ?_ ?_)
   | (with_reducible refine LeO.bind ?_ (fun _ => ?_))
   | exact ih0 _ _ _ _
   | exact LeO.none _
   | refine LeO.ite ?_ ?_
   | refine LeO.bind ?_ (fun _ => ?_)
set_option maxHeartbeats 8000000 in
set_option maxRecDepth 100000 in
theorem arm_Valid.calls (k : Nat) (A0 : Option Addr) (c0 : Nat) (l0 : List (S73)) (r : Bool) (w : World) (hr0 : Kd.C k73 w A0 l0.length l0) (hc0 : l0.length ≤ c0) (h : arm_Valid.f k l0 = some r) :
  Calls Try.prog 23 #[.slice A0 l0.length c0] w fun e w' => e = .returned (.bool r) ∧ Below w.heap.size w w' := by
 have hu73 := Try.underlying73
 have HR0 := A_ hr0
 have HC0 := A_ hc0
 clear hr0 hc0
 have HB := A_ (Below.refl w.heap.size w)
 have H : ((arm_within.f 1 (l0.length : Int) 30).bind fun t101 => (if t101 = true then (arm_Valid.l0 k (-1) l0 (l0.length : Int) 0) else (some false))) = some r := h
 clear h
 replace H := Option.bind_eq_some_iff.mp H
 obtain ⟨t101, A20, H⟩ := H
 replace H : (if t101 = true then (arm_Valid.l0 k (-1) l0 (l0.length : Int) 0) else (some false)) = some r := H
 have A2 := A_ A20
 clear A20
 by_cases c3 : t101 = true
 rotate_left
 ·replace c3 := Bool.eq_false_iff.mpr c3
  subst c3
  have H1 : (some false) = some r := by rw [if_neg (show ¬ (false = true) by decide)] at H; exact H
  clear H
  have H := H1
  clear H1
  obtain rfl := Option.some.inj H
  go_enter Try.func23, Try.ntmps23
  go_wp2_with (first | ((with_reducible refine gate_callee (f := 51) rfl ?_); refine goesW_ (some 8) Try.func51 #[.int .i64 1, .int .i64 (l0.length : Int), .int .i64 30] ?_; (with_reducible refine (arm_within.calls 1 (l0.length : Int) 30 false _ A2.out).mono ?_); rintro e w' ⟨rfl, ⟨nd, rfl⟩⟩; refine ⟨_, rfl, ?_⟩))
  go_ret
  exact ⟨eQ, by repeat (first | (with_reducible first | exact HB.out | apply below_alloc | apply pw_below_drewN | apply below_drew1) | exact HB.out)⟩

 subst c3
 have H1 : (arm_Valid.l0 k (-1) l0 (l0.length : Int) 0) = some r := by rw [if_pos rfl] at H; exact H
 clear H
 have H := H1
 clear H1
 have H' := A_ H
 clear H
 go_enter Try.func23, Try.ntmps23
 go_wp2_with (first | ((with_reducible refine gate_callee (f := 51) rfl ?_); refine goesW_ (some 8) Try.func51 #[.int .i64 1, .int .i64 (l0.length : Int), .int .i64 30] ?_; (with_reducible refine (arm_within.calls 1 (l0.length : Int) 30 true _ A2.out).mono ?_); rintro e w' ⟨rfl, ⟨nd, rfl⟩⟩; refine ⟨_, rfl, ?_⟩))
 go_loopg [3, 12] k (fun kq v3 v12 w' => ∃ (x3_1 : Int) (x12_1 : Int), v3 = .int .i64 x3_1 ∧ v12 = .int .i64 x12_1 ∧ Aside0 (arm_Valid.l0 kq x3_1 l0 (l0.length : Int) x12_1 = some r) ∧ Aside0 (kq ≤ k) ∧ Aside0 (Below w.heap.size w w'))
 case atStart => exact ⟨((-1)), (0), eS, eS, H', ⟨Nat.le_refl _⟩, ⟨by repeat (first | (with_reducible first | exact HB.out | apply below_alloc | apply pw_below_drewN | apply below_drew1) | exact HB.out)⟩⟩
 case round =>
  clear H'
  try clear c2; try clear p2; try clear c3
  obtain ⟨x3_1, x12_1, rfl, rfl, HA, HK1, HB⟩ := hrel
  cases gk with
  | zero => exact absurd HA.out (by simp [arm_Valid.l0])
  | succ k1 =>
   have H := HA.out
   clear HA
   simp only [arm_Valid.l0] at H
   by_cases c4 : x12_1 < (l0.length : Int)
   rotate_left
   ·rw [if_neg c4] at H
    have c4b0 : decide (x12_1 < (l0.length : Int)) = false := decide_eq_false c4
    clear c4
    obtain rfl := Option.some.inj H
    go_wp2
    go_ret
    exact ⟨eQ, by repeat (first | (with_reducible first | exact HB.out | apply below_alloc | apply pw_below_drewN | apply below_drew1) | exact HB.out)⟩
   rw [if_pos c4] at H
   have c4b0 : decide (x12_1 < (l0.length : Int)) = true := decide_eq_true c4
   clear c4
   by_cases c5 : 0 ≤ x12_1
   rotate_left
   ·rw [if_neg c5] at H
    exact absurd H (by simp)
   rw [if_pos c5] at H
   have c5b0 : decide (0 ≤ x12_1) = true := decide_eq_true c5
   clear c5
   by_cases c6 : x12_1 < (l0.length : Int)
   rotate_left
   ·rw [if_neg c6] at H
    exact absurd H (by simp)
   rw [if_pos c6] at H
   have c6b0 : decide (x12_1 < (l0.length : Int)) = true := decide_eq_true c6
   clear c6
   replace H := Option.bind_eq_some_iff.mp H
   obtain ⟨t104, A70, H⟩ := H
   replace H : (if t104 = true then ((arm_within.f (-1000) ((rd_T73 l0 x12_1).f1) ((rd_T73 l0 x12_1).f2)).bind fun t105 => (if t105 = true then (if ((rd_T73 l0 x12_1).f2) > 1000 then (some false) else (arm_Valid.l0 k1 ((rd_T73 l0 x12_1).f0) l0 (l0.length : Int) (wrap64 (x12_1 + 1)))) else (some false))) else (some false)) = some r := H
   have A7 := A_ A70
   clear A70
   by_cases c8 : t104 = true
   rotate_left
   ·replace c8 := Bool.eq_false_iff.mpr c8
    subst c8
    have H1 : (some false) = some r := by rw [if_neg (show ¬ (false = true) by decide)] at H; exact H
    clear H
    have H := H1
    clear H1
    obtain rfl := Option.some.inj H
    have p102 : 0 ≤ (x12_1 : Int) := oD
    have q102 : x12_1 < (l0.length : Int) := oD
    obtain ⟨ad102, e102, hx102_0, hx102_1, hx102_2⟩ := at_T73 HR0.out x12_1 p102 q102
    cases e102
    replace hx102_0 := (HB.out.cell (World.block_lt_of_cell? w _ hx102_0)).trans hx102_0
    replace hx102_1 := (HB.out.cell (World.block_lt_of_cell? w _ hx102_1)).trans hx102_1
    replace hx102_2 := (HB.out.cell (World.block_lt_of_cell? w _ hx102_2)).trans hx102_2
    replace p102 := eq_true p102
    replace q102 := eq_true q102
    go_wp2_with (first | ((with_reducible refine gate_dst (N := 5) rfl ?_); refine bxW 5 (cs := #[.int .i64 0, .int .i64 0, .int .i64 0]) (t := 73) ?_; intro gb103 hg w18 hbox hb; have n0_ := A_ (below_step (bW0 HB.out) hb); have n1_ := A_ (hbox); have n2_ := A_ ((szG hg (bW0 HB.out))); have n3_ := A_ ((szG hg (bW0 HB.out))); clear HB; have HB := n0_; have BK103 := n1_; have GW103 := n2_; have GE103 := n3_; clear n0_ n1_ n2_ n3_; clear hb hbox hg; have hcz19_0 : w18.cell? ⟨gb103, 0, none⟩ = some (.int .i64 0) := (blk_cell BK103.out 0).trans rfl; have hcz19_1 : w18.cell? ⟨gb103, 1, none⟩ = some (.int .i64 0) := (blk_cell BK103.out 1).trans rfl; have hcz19_2 : w18.cell? ⟨gb103, 2, none⟩ = some (.int .i64 0) := (blk_cell BK103.out 2).trans rfl; have hfz19_0 := blk_frozen BK103.out 0; have hfz19_1 := blk_frozen BK103.out 1; have hfz19_2 := blk_frozen BK103.out 2) | ((with_reducible refine gate_callee (f := 51) rfl ?_); refine goesW_ (some 20) Try.func51 #[.int .i64 (wrap64 (x3_1 + 1)), .int .i64 ((rd_T73 l0 x12_1).f0), .int .i64 100000] ?_; (with_reducible refine (arm_within.calls (wrap64 (x3_1 + 1)) ((rd_T73 l0 x12_1).f0) 100000 false _ A7.out).mono ?_); rintro e w' ⟨rfl, ⟨nd, rfl⟩⟩; refine ⟨_, rfl, ?_⟩))
    go_ret
    exact ⟨eQ, by repeat (first | (with_reducible first | exact HB.out | apply below_alloc | apply pw_below_drewN | apply below_drew1 | refine below_set ?_ GE103.out) | exact HB.out)⟩
   subst c8
   have H1 : ((arm_within.f (-1000) ((rd_T73 l0 x12_1).f1) ((rd_T73 l0 x12_1).f2)).bind fun t105 => (if t105 = true then (if ((rd_T73 l0 x12_1).f2) > 1000 then (some false) else (arm_Valid.l0 k1 ((rd_T73 l0 x12_1).f0) l0 (l0.length : Int) (wrap64 (x12_1 + 1)))) else (some false))) = some r := by rw [if_pos rfl] at H; exact H
   clear H
   have H := H1
   clear H1
   replace H := Option.bind_eq_some_iff.mp H
   obtain ⟨t105, A90, H⟩ := H
   replace H : (if t105 = true then (if ((rd_T73 l0 x12_1).f2) > 1000 then (some false) else (arm_Valid.l0 k1 ((rd_T73 l0 x12_1).f0) l0 (l0.length : Int) (wrap64 (x12_1 + 1)))) else (some false)) = some r := H
   have A9 := A_ A90
   clear A90
   by_cases c10 : t105 = true
   rotate_left
   ·replace c10 := Bool.eq_false_iff.mpr c10
    subst c10
    have H1 : (some false) = some r := by rw [if_neg (show ¬ (false = true) by decide)] at H; exact H
    clear H
    have H := H1
    clear H1
    obtain rfl := Option.some.inj H
    have p102 : 0 ≤ (x12_1 : Int) := oD
    have q102 : x12_1 < (l0.length : Int) := oD
    obtain ⟨ad102, e102, hx102_0, hx102_1, hx102_2⟩ := at_T73 HR0.out x12_1 p102 q102
    cases e102
    replace hx102_0 := (HB.out.cell (World.block_lt_of_cell? w _ hx102_0)).trans hx102_0
    replace hx102_1 := (HB.out.cell (World.block_lt_of_cell? w _ hx102_1)).trans hx102_1
    replace hx102_2 := (HB.out.cell (World.block_lt_of_cell? w _ hx102_2)).trans hx102_2
    replace p102 := eq_true p102
    replace q102 := eq_true q102
    go_wp2_with (first | ((with_reducible refine gate_dst (N := 5) rfl ?_); refine bxW 5 (cs := #[.int .i64 0, .int .i64 0, .int .i64 0]) (t := 73) ?_; intro gb103 hg w16 hbox hb; have n0_ := A_ (below_step (bW0 HB.out) hb); have n1_ := A_ (hbox); have n2_ := A_ ((szG hg (bW0 HB.out))); have n3_ := A_ ((szG hg (bW0 HB.out))); clear HB; have HB := n0_; have BK103 := n1_; have GW103 := n2_; have GE103 := n3_; clear n0_ n1_ n2_ n3_; clear hb hbox hg; have hcz17_0 : w16.cell? ⟨gb103, 0, none⟩ = some (.int .i64 0) := (blk_cell BK103.out 0).trans rfl; have hcz17_1 : w16.cell? ⟨gb103, 1, none⟩ = some (.int .i64 0) := (blk_cell BK103.out 1).trans rfl; have hcz17_2 : w16.cell? ⟨gb103, 2, none⟩ = some (.int .i64 0) := (blk_cell BK103.out 2).trans rfl; have hfz17_0 := blk_frozen BK103.out 0; have hfz17_1 := blk_frozen BK103.out 1; have hfz17_2 := blk_frozen BK103.out 2) | ((with_reducible refine gate_callee (f := 51) rfl ?_); refine goesW_ (some 20) Try.func51 #[.int .i64 (wrap64 (x3_1 + 1)), .int .i64 ((rd_T73 l0 x12_1).f0), .int .i64 100000] ?_; (with_reducible refine (arm_within.calls (wrap64 (x3_1 + 1)) ((rd_T73 l0 x12_1).f0) 100000 true _ A7.out).mono ?_); rintro e w' ⟨rfl, ⟨nd, rfl⟩⟩; refine ⟨_, rfl, ?_⟩) | (go_at_call 51; (with_reducible refine (arm_within.calls (-1000) ((rd_T73 l0 x12_1).f1) ((rd_T73 l0 x12_1).f2) false _ A9.out).mono ?_); rintro e w' ⟨rfl, ⟨nd, rfl⟩⟩))
    go_ret
    exact ⟨eQ, by repeat (first | (with_reducible first | exact HB.out | apply below_alloc | apply pw_below_drewN | apply below_drew1 | refine below_set ?_ GE103.out) | exact HB.out)⟩
   subst c10
   have H1 : (if ((rd_T73 l0 x12_1).f2) > 1000 then (some false) else (arm_Valid.l0 k1 ((rd_T73 l0 x12_1).f0) l0 (l0.length : Int) (wrap64 (x12_1 + 1)))) = some r := by rw [if_pos rfl] at H; exact H
   clear H
   have H := H1
   clear H1
   by_cases c11 : ((rd_T73 l0 x12_1).f2) > 1000
   ·rw [if_pos c11] at H
    have c11b0 : decide (1000 < ((rd_T73 l0 x12_1).f2)) = true := decide_eq_true c11
    clear c11
    obtain rfl := Option.some.inj H
    have p102 : 0 ≤ (x12_1 : Int) := oD
    have q102 : x12_1 < (l0.length : Int) := oD
    obtain ⟨ad102, e102, hx102_0, hx102_1, hx102_2⟩ := at_T73 HR0.out x12_1 p102 q102
    cases e102
    replace hx102_0 := (HB.out.cell (World.block_lt_of_cell? w _ hx102_0)).trans hx102_0
    replace hx102_1 := (HB.out.cell (World.block_lt_of_cell? w _ hx102_1)).trans hx102_1
    replace hx102_2 := (HB.out.cell (World.block_lt_of_cell? w _ hx102_2)).trans hx102_2
    replace p102 := eq_true p102
    replace q102 := eq_true q102
    go_wp2_with (first | ((with_reducible refine gate_dst (N := 5) rfl ?_); refine bxW 5 (cs := #[.int .i64 0, .int .i64 0, .int .i64 0]) (t := 73) ?_; intro gb103 hg w12 hbox hb; have n0_ := A_ (below_step (bW0 HB.out) hb); have n1_ := A_ (hbox); have n2_ := A_ ((szG hg (bW0 HB.out))); have n3_ := A_ ((szG hg (bW0 HB.out))); clear HB; have HB := n0_; have BK103 := n1_; have GW103 := n2_; have GE103 := n3_; clear n0_ n1_ n2_ n3_; clear hb hbox hg; have hcz13_0 : w12.cell? ⟨gb103, 0, none⟩ = some (.int .i64 0) := (blk_cell BK103.out 0).trans rfl; have hcz13_1 : w12.cell? ⟨gb103, 1, none⟩ = some (.int .i64 0) := (blk_cell BK103.out 1).trans rfl; have hcz13_2 : w12.cell? ⟨gb103, 2, none⟩ = some (.int .i64 0) := (blk_cell BK103.out 2).trans rfl; have hfz13_0 := blk_frozen BK103.out 0; have hfz13_1 := blk_frozen BK103.out 1; have hfz13_2 := blk_frozen BK103.out 2) | ((with_reducible refine gate_callee (f := 51) rfl ?_); refine goesW_ (some 20) Try.func51 #[.int .i64 (wrap64 (x3_1 + 1)), .int .i64 ((rd_T73 l0 x12_1).f0), .int .i64 100000] ?_; (with_reducible refine (arm_within.calls (wrap64 (x3_1 + 1)) ((rd_T73 l0 x12_1).f0) 100000 true _ A7.out).mono ?_); rintro e w' ⟨rfl, ⟨nd, rfl⟩⟩; refine ⟨_, rfl, ?_⟩) | (go_at_call 51; (with_reducible refine (arm_within.calls (-1000) ((rd_T73 l0 x12_1).f1) ((rd_T73 l0 x12_1).f2) true _ A9.out).mono ?_); rintro e w' ⟨rfl, ⟨nd, rfl⟩⟩))
    go_ret
    exact ⟨eQ, by repeat (first | (with_reducible first | exact HB.out | apply below_alloc | apply pw_below_drewN | apply below_drew1 | refine below_set ?_ GE103.out) | exact HB.out)⟩
   rw [if_neg c11] at H
   have c11b0 : decide (1000 < ((rd_T73 l0 x12_1).f2)) = false := decide_eq_false c11
   clear c11
   have H' := A_ H
   clear H
   have p102 : 0 ≤ (x12_1 : Int) := oD
   have q102 : x12_1 < (l0.length : Int) := oD
   obtain ⟨ad102, e102, hx102_0, hx102_1, hx102_2⟩ := at_T73 HR0.out x12_1 p102 q102
   cases e102
   replace hx102_0 := (HB.out.cell (World.block_lt_of_cell? w _ hx102_0)).trans hx102_0
   replace hx102_1 := (HB.out.cell (World.block_lt_of_cell? w _ hx102_1)).trans hx102_1
   replace hx102_2 := (HB.out.cell (World.block_lt_of_cell? w _ hx102_2)).trans hx102_2
   replace p102 := eq_true p102
   replace q102 := eq_true q102
   go_wp2_with (first | ((with_reducible refine gate_dst (N := 5) rfl ?_); refine bxW 5 (cs := #[.int .i64 0, .int .i64 0, .int .i64 0]) (t := 73) ?_; intro gb103 hg w14 hbox hb; have n0_ := A_ (below_step (bW0 HB.out) hb); have n1_ := A_ (hbox); have n2_ := A_ ((szG hg (bW0 HB.out))); have n3_ := A_ ((szG hg (bW0 HB.out))); clear HB; have HB := n0_; have BK103 := n1_; have GW103 := n2_; have GE103 := n3_; clear n0_ n1_ n2_ n3_; clear hb hbox hg; have hcz15_0 : w14.cell? ⟨gb103, 0, none⟩ = some (.int .i64 0) := (blk_cell BK103.out 0).trans rfl; have hcz15_1 : w14.cell? ⟨gb103, 1, none⟩ = some (.int .i64 0) := (blk_cell BK103.out 1).trans rfl; have hcz15_2 : w14.cell? ⟨gb103, 2, none⟩ = some (.int .i64 0) := (blk_cell BK103.out 2).trans rfl; have hfz15_0 := blk_frozen BK103.out 0; have hfz15_1 := blk_frozen BK103.out 1; have hfz15_2 := blk_frozen BK103.out 2) | ((with_reducible refine gate_callee (f := 51) rfl ?_); refine goesW_ (some 20) Try.func51 #[.int .i64 (wrap64 (x3_1 + 1)), .int .i64 ((rd_T73 l0 x12_1).f0), .int .i64 100000] ?_; (with_reducible refine (arm_within.calls (wrap64 (x3_1 + 1)) ((rd_T73 l0 x12_1).f0) 100000 true _ A7.out).mono ?_); rintro e w' ⟨rfl, ⟨nd, rfl⟩⟩; refine ⟨_, rfl, ?_⟩) | (go_at_call 51; (with_reducible refine (arm_within.calls (-1000) ((rd_T73 l0 x12_1).f1) ((rd_T73 l0 x12_1).f2) true _ A9.out).mono ?_); rintro e w' ⟨rfl, ⟨nd, rfl⟩⟩))
   go_roundg k1
   case measure => have := HK1.out; omega
   case rel => exact ⟨((rd_T73 l0 x12_1).f0), (wrap64 (x12_1 + 1)), eS, eS, H', ⟨by have := HK1.out; omega⟩, ⟨by repeat (first | (with_reducible first | exact HB.out | apply below_alloc | apply pw_below_drewN | apply below_drew1 | refine below_set ?_ GE103.out) | exact HB.out)⟩⟩
end Go.Proofs.Ytiapmkndgalgnaa.G
