-- Written by this session's driver (wip/tools/printmore.py) over the kit's print, with hand-written parts.
import Derived.Test.YtiapmkndgalgnaaGBase
import Derived.Test.YtiapmkndgalgnaaGF24
import Derived.Test.YtiapmkndgalgnaaGF54
namespace Go.Proofs.Ytiapmkndgalgnaa.G
open Go.RowKit Go.Proofs.YtiapmkndgalgnaaW.PrintWords Go.Proofs.YtiapmkndgalgnaaW.PrintLast Go.Proofs.YtiapmkndgalgnaaW.PrintMore
attribute [local go_sem] max2_int min2_int max_two min_two max_three min_three max_four min_four   -- for this text's walks alone
set_option linter.unusedVariables false
set_option linter.unusedSimpArgs false

/-! ### dropperref03_Forbid: function 17 -/
mutual
def dropperref03_Forbid.l0 : Nat → List (S73) → Int → Option (Int × Int × Int × Int)
 | 0, _, _ => none
 | k + 1, x0, x4 => if x4 < (x0.length : Int) then (dropperref03_Forbid.l1 k x0 x4 (wrap64 (x4 + 1))) else (some (0, 0, 0, 5))
def dropperref03_Forbid.l1 : Nat → List (S73) → Int → Int → Option (Int × Int × Int × Int)
 | 0, _, _, _ => none
 | k + 1, x0, x4, x5 => if x5 < (x0.length : Int) then (dropperref03_Forbid.l2 k x0 x4 x5 (wrap64 (x5 + 1))) else (dropperref03_Forbid.l0 k x0 (wrap64 (x4 + 1)))
def dropperref03_Forbid.l2 : Nat → List (S73) → Int → Int → Int → Option (Int × Int × Int × Int)
 | 0, _, _, _, _ => none
 | k + 1, x0, x4, x5, x6 => if x6 < (x0.length : Int) then ((dropperref03_forbids.f x0 x4 x5 x6).bind fun t104 => (if t104 = true then (some (x4, x5, x6, 0)) else (dropperref03_Forbid.l2 k x0 x4 x5 (wrap64 (x6 + 1))))) else (dropperref03_Forbid.l1 k x0 x4 (wrap64 (x5 + 1)))
end
def dropperref03_Forbid.f (k : Nat) (l0 : List (S73)) : Option (Int × Int × Int × Int) := (dropperref03_Valid.f k l0).bind fun t102 => (if t102 = true then (dropperref03_Forbid.l0 k l0 0) else (some (0, 0, 0, 20)))
theorem dropperref03_Forbid.mono_l : ∀ k, (∀ y0 y1, LeO (dropperref03_Forbid.l0 k y0 y1) (dropperref03_Forbid.l0 (k + 1) y0 y1)) ∧ (∀ y0 y1 y2, LeO (dropperref03_Forbid.l1 k y0 y1 y2) (dropperref03_Forbid.l1 (k + 1) y0 y1 y2)) ∧ (∀ y0 y1 y2 y3, LeO (dropperref03_Forbid.l2 k y0 y1 y2 y3) (dropperref03_Forbid.l2 (k + 1) y0 y1 y2 y3))
 | 0 => ⟨fun _ _ r h => by simp [dropperref03_Forbid.l0] at h, fun _ _ _ r h => by simp [dropperref03_Forbid.l1] at h, fun _ _ _ _ r h => by simp [dropperref03_Forbid.l2] at h⟩
 | k + 1 => by
  obtain ⟨ih0, ih1, ih2⟩ := dropperref03_Forbid.mono_l k
  refine ⟨?_, ?_, ?_⟩
  ·intro y0 y1
   unfold dropperref03_Forbid.l0
   repeat' first
   | (with_reducible exact ih0 _ _)
   | (with_reducible exact ih1 _ _ _)
   | (with_reducible exact ih2 _ _ _ _)
   | (with_reducible exact dropperref03_Valid.mono _ _)
   | (with_reducible exact LeO.refl _)
   | (with_reducible exact LeO.none _)
   | (with_reducible refine LeO.ite ?_ ?_)
   | (with_reducible refine LeO.bind ?_ (fun _ => ?_))
   | exact ih0 _ _
   | exact ih1 _ _ _
   | exact ih2 _ _ _ _
   | exact dropperref03_Valid.mono _ _
   | exact LeO.none _
   | refine LeO.ite ?_ ?_
   | refine LeO.bind ?_ (fun _ => ?_)
  ·intro y0 y1 y2
   unfold dropperref03_Forbid.l1
   repeat' first
   | (with_reducible exact ih0 _ _)
   | (with_reducible exact ih1 _ _ _)
   | (with_reducible exact ih2 _ _ _ _)
   | (with_reducible exact dropperref03_Valid.mono _ _)
   | (with_reducible exact LeO.refl _)
   | (with_reducible exact LeO.none _)
   | (with_reducible refine LeO.ite ?_ ?_)
   | (with_reducible refine LeO.bind ?_ (fun _ => ?_))
   | exact ih0 _ _
   | exact ih1 _ _ _
   | exact ih2 _ _ _ _
   | exact dropperref03_Valid.mono _ _
   | exact LeO.none _
   | refine LeO.ite ?_ ?_
   | refine LeO.bind ?_ (fun _ => ?_)
  ·intro y0 y1 y2 y3
   unfold dropperref03_Forbid.l2
   repeat' first
   | (with_reducible exact ih0 _ _)
   | (with_reducible exact ih1 _ _ _)
   | (with_reducible exact ih2 _ _ _ _)
   | (with_reducible exact dropperref03_Valid.mono _ _)
   | (with_reducible exact LeO.refl _)
   | (with_reducible exact LeO.none _)
   | (with_reducible refine LeO.ite ?_ ?_)
   | (with_reducible refine LeO.bind ?_ (fun _ => ?_))
   | exact ih0 _ _
   | exact ih1 _ _ _
   | exact ih2 _ _ _ _
   | exact dropperref03_Valid.mono _ _
   | exact LeO.none _
   | refine LeO.ite ?_ ?_
   | refine LeO.bind ?_ (fun _ => ?_)
theorem dropperref03_Forbid.mono : ∀ a0 k, LeO (dropperref03_Forbid.f k a0) (dropperref03_Forbid.f (k + 1) a0) := by
 intro a0 k
 obtain ⟨ih0, ih1, ih2⟩ := dropperref03_Forbid.mono_l k
 unfold dropperref03_Forbid.f
 repeat' first
   | (with_reducible exact ih0 _ _)
   | (with_reducible exact ih1 _ _ _)
   | (with_reducible exact ih2 _ _ _ _)
   | (with_reducible exact dropperref03_Valid.mono _ _)
   | (with_reducible exact LeO.refl _)
   | (with_reducible exact LeO.none _)
   | (with_reducible refine LeO.ite ?_ ?_)
   | (with_reducible refine LeO.bind ?_ (fun _ => ?_))
   | exact ih0 _ _
   | exact ih1 _ _ _
   | exact ih2 _ _ _ _
   | exact dropperref03_Valid.mono _ _
   | exact LeO.none _
   | refine LeO.ite ?_ ?_
   | refine LeO.bind ?_ (fun _ => ?_)
set_option maxHeartbeats 8000000 in
set_option maxRecDepth 100000 in
theorem dropperref03_Forbid.calls (k : Nat) (A0 : Option Addr) (c0 : Nat) (l0 : List (S73)) (r1 : Int) (r2 : Int) (r3 : Int) (r4 : Int) (w : World) (hr0 : Kd.C k73 w A0 l0.length l0) (hc0 : l0.length ≤ c0) (h : dropperref03_Forbid.f k l0 = some (r1, r2, r3, r4)) :
  Calls Try.prog 17 #[.slice A0 l0.length c0] w fun e w' => e = .returned (.tuple #[.agg #[.int .i64 r1, .int .i64 r2, .int .i64 r3], .int .i64 r4]) ∧ Below w.heap.size w w' := by
 have hu31 := Try.underlying31; have HR0 := A_ hr0; have HC0 := A_ hc0; clear hr0 hc0; have HB := A_ (Below.refl w.heap.size w)
 have H : ((dropperref03_Valid.f k l0).bind fun t102 => (if t102 = true then (dropperref03_Forbid.l0 k l0 0) else (some (0, 0, 0, 20)))) = some (r1, r2, r3, r4) := h
 clear h; replace H := Option.bind_eq_some_iff.mp H; obtain ⟨t102, A20, H⟩ := H; (try dsimp only at H); have A2 := A_ A20; clear A20; by_cases c3 : t102 = true; rotate_left
 ·replace c3 := Bool.eq_false_iff.mpr c3
  subst c3; rw [if_neg (show ¬ (false = true) by decide)] at H; simp only [Option.some.injEq, Prod.mk.injEq] at H; obtain ⟨rfl, rfl, rfl, rfl⟩ := H
  go_enter Try.func17, Try.ntmps17
  go_wp2_with (first | ((with_reducible refine gate_dst (N := 2) rfl ?_); refine bxW 2 (cs := #[.int .i64 0, .int .i64 0, .int .i64 0]) (t := 31) ?_; intro gb101 hg w22 hbox hb; have n0_ := A_ (below_step (bW0 HB.out) hb); have n1_ := A_ (hbox); have n2_ := A_ ((szG hg (bW0 HB.out))); have n3_ := A_ ((szG hg (bW0 HB.out))); clear HB; have HB := n0_; have BK101 := n1_; have GW101 := n2_; have GE101 := n3_; clear n0_ n1_ n2_ n3_; clear hb hbox hg) | ((with_reducible refine gate_callee (f := 24) rfl ?_); refine goesW_ (some 9) Try.func24 #[.slice A0 l0.length c0] ?_; (with_reducible refine (dropperref03_Valid.calls k _ _ l0 false _ ?side1 ?side2 A2.out).mono ?_); (case side1 => exact cU (Kd.C_below HR0.out HB.out)); (case side2 => exact HC0.out); rintro e w23 ⟨rfl, hb⟩; refine ⟨_, rfl, ?_⟩; have n0_ := A_ (bkB BK101 hb); have n1_ := A_ (below_step (bW1 HB.out GE101.out) hb); clear BK101; clear HB; have BK101 := n0_; have HB := n1_; clear n0_ n1_; (try clear hb); have hcz24_0 : w23.cell? ⟨gb101, 0, none⟩ = some (.int .i64 0) := (blk_cell BK101.out 0).trans rfl; have hcz24_1 : w23.cell? ⟨gb101, 1, none⟩ = some (.int .i64 0) := (blk_cell BK101.out 1).trans rfl; have hcz24_2 : w23.cell? ⟨gb101, 2, none⟩ = some (.int .i64 0) := (blk_cell BK101.out 2).trans rfl; have hfz24_0 := blk_frozen BK101.out 0; have hfz24_1 := blk_frozen BK101.out 1; have hfz24_2 := blk_frozen BK101.out 2))
  refine bodyPost_ret (results_ct rfl _ _ gb101 31 #[.int .i64 0, .int .i64 0, .int .i64 0] (0, 0) _ rfl (by (with_reducible repeat (first | refine blk_drewN ?_ _ | refine blk_drew ?_ | refine blk_alloc ?_ _)); refine blk_put (cs := #[.int .i64 0, .int .i64 0, .int .i64 0]) ?_ 2 _ rfl; (with_reducible repeat (first | refine blk_drewN ?_ _ | refine blk_drew ?_ | refine blk_alloc ?_ _)); refine blk_put (cs := #[.int .i64 0, .int .i64 0, .int .i64 0]) ?_ 1 _ rfl; (with_reducible repeat (first | refine blk_drewN ?_ _ | refine blk_drew ?_ | refine blk_alloc ?_ _)); refine blk_put (cs := #[.int .i64 0, .int .i64 0, .int .i64 0]) ?_ 0 _ rfl; exact bkU BK101) Try.underlying31 rfl (by kernel_rfl)) rfl ?_
  exact ⟨eQ, by repeat (first | (with_reducible first | exact HB.out | apply below_alloc | apply pw_below_drewN | apply below_drew1 | refine below_set ?_ GE101.out) | exact HB.out)⟩

 subst c3; rw [if_pos rfl] at H; have H' := A_ H; clear H
 go_enter Try.func17, Try.ntmps17
 go_wp2_with (first | ((with_reducible refine gate_dst (N := 2) rfl ?_); refine bxW 2 (cs := #[.int .i64 0, .int .i64 0, .int .i64 0]) (t := 31) ?_; intro gb101 hg w4 hbox hb; have n0_ := A_ (below_step (bW0 HB.out) hb); have n1_ := A_ (hbox); have n2_ := A_ ((szG hg (bW0 HB.out))); have n3_ := A_ ((szG hg (bW0 HB.out))); clear HB; have HB := n0_; have BK101 := n1_; have GW101 := n2_; have GE101 := n3_; clear n0_ n1_ n2_ n3_; clear hb hbox hg) | ((with_reducible refine gate_callee (f := 24) rfl ?_); refine goesW_ (some 9) Try.func24 #[.slice A0 l0.length c0] ?_; (with_reducible refine (dropperref03_Valid.calls k _ _ l0 true _ ?side1 ?side2 A2.out).mono ?_); (case side1 => exact cU (Kd.C_below HR0.out HB.out)); (case side2 => exact HC0.out); rintro e w5 ⟨rfl, hb⟩; refine ⟨_, rfl, ?_⟩; have n0_ := A_ (bkB BK101 hb); have n1_ := A_ (below_step (bW1 HB.out GE101.out) hb); clear BK101; clear HB; have BK101 := n0_; have HB := n1_; clear n0_ n1_; (try clear hb)))
 go_loopg [4] k (fun kq v4 w' => ∃ (x4_1 : Int) (x102000_1 : Int) (x102001_1 : Int) (x102002_1 : Int), v4 = .int .i64 x4_1 ∧ Aside0 (dropperref03_Forbid.l0 kq l0 x4_1 = some (r1, r2, r3, r4)) ∧ Aside0 (kq ≤ k) ∧ Aside0 (w'.heap[gb101]? = some (.cells #[.int .i64 x102000_1, .int .i64 x102001_1, .int .i64 x102002_1] 31 (0, 0))) ∧ Aside0 (Below w.heap.size w w'))
 case atStart => exact ⟨(0), (0), (0), (0), eS, H', ⟨Nat.le_refl _⟩, ⟨bkU BK101⟩, ⟨by repeat (first | (with_reducible first | exact HB.out | apply below_alloc | apply pw_below_drewN | apply below_drew1 | refine below_set ?_ GE101.out) | exact HB.out)⟩⟩
 case round =>
  clear H'
  try clear c1; try clear c2; try clear p2; try clear c3
  obtain ⟨x4_1, x102000_1, x102001_1, x102002_1, rfl, HA, HK1, BK101, HB⟩ := hrel
  cases gk with
  | zero => exact absurd HA.out (by simp [dropperref03_Forbid.l0])
  | succ k1 =>
   have H := HA.out; clear HA; simp only [dropperref03_Forbid.l0] at H; by_cases c6 : x4_1 < (l0.length : Int); rotate_left
   ·rw [if_neg c6] at H
    have c6b0 : decide (x4_1 < (l0.length : Int)) = false := decide_eq_false c6; clear c6; simp only [Option.some.injEq, Prod.mk.injEq] at H; obtain ⟨rfl, rfl, rfl, rfl⟩ := H; have hcz21_0 : wr.cell? ⟨gb101, 0, none⟩ = some (.int .i64 x102000_1) := (blk_cell BK101.out 0).trans rfl; have hcz21_1 : wr.cell? ⟨gb101, 1, none⟩ = some (.int .i64 x102001_1) := (blk_cell BK101.out 1).trans rfl; have hcz21_2 : wr.cell? ⟨gb101, 2, none⟩ = some (.int .i64 x102002_1) := (blk_cell BK101.out 2).trans rfl; have hfz21_0 := blk_frozen BK101.out 0; have hfz21_1 := blk_frozen BK101.out 1; have hfz21_2 := blk_frozen BK101.out 2
    go_wp2
    refine bodyPost_ret (results_ct rfl _ _ gb101 31 #[.int .i64 0, .int .i64 0, .int .i64 0] (0, 0) _ rfl (by (with_reducible repeat (first | refine blk_drewN ?_ _ | refine blk_drew ?_ | refine blk_alloc ?_ _)); refine blk_put (cs := #[.int .i64 0, .int .i64 0, .int .i64 x102002_1]) ?_ 2 _ rfl; (with_reducible repeat (first | refine blk_drewN ?_ _ | refine blk_drew ?_ | refine blk_alloc ?_ _)); refine blk_put (cs := #[.int .i64 0, .int .i64 x102001_1, .int .i64 x102002_1]) ?_ 1 _ rfl; (with_reducible repeat (first | refine blk_drewN ?_ _ | refine blk_drew ?_ | refine blk_alloc ?_ _)); refine blk_put (cs := #[.int .i64 x102000_1, .int .i64 x102001_1, .int .i64 x102002_1]) ?_ 0 _ rfl; exact bkU BK101) Try.underlying31 rfl (by kernel_rfl)) rfl ?_
    exact ⟨eQ, by repeat (first | (with_reducible first | exact HB.out | apply below_alloc | apply pw_below_drewN | apply below_drew1 | refine below_set ?_ GE101.out) | exact HB.out)⟩
   rw [if_pos c6] at H; have c6b0 : decide (x4_1 < (l0.length : Int)) = true := decide_eq_true c6; clear c6; have H' := A_ H; clear H
   go_wp2
   go_loopg [5] k1 (fun kq v5 w' => ∃ (x5_2 : Int) (x102000_2 : Int) (x102001_2 : Int) (x102002_2 : Int), v5 = .int .i64 x5_2 ∧ Aside0 (dropperref03_Forbid.l1 kq l0 x4_1 x5_2 = some (r1, r2, r3, r4)) ∧ Aside0 (kq ≤ k1) ∧ Aside0 (w'.heap[gb101]? = some (.cells #[.int .i64 x102000_2, .int .i64 x102001_2, .int .i64 x102002_2] 31 (0, 0))) ∧ Aside0 (Below w.heap.size w w'))
   case atStart => exact ⟨(wrap64 (x4_1 + 1)), (x102000_1), (x102001_1), (x102002_1), eS, H', ⟨Nat.le_refl _⟩, ⟨bkU BK101⟩, ⟨by repeat (first | (with_reducible first | exact HB.out | apply below_alloc | apply pw_below_drewN | apply below_drew1 | refine below_set ?_ GE101.out) | exact HB.out)⟩⟩
   case round =>
    clear H'
    try clear c1; try clear c2; try clear p2; try clear c3; try clear c6; try clear c6b0; try clear p6; try clear p2
    obtain ⟨x5_2, x102000_2, x102001_2, x102002_2, rfl, HA, HK2, BK101, HB⟩ := hrel
    cases gk with
    | zero => exact absurd HA.out (by simp [dropperref03_Forbid.l1])
    | succ k2 =>
     have H := HA.out; clear HA; simp only [dropperref03_Forbid.l1] at H; by_cases c7 : x5_2 < (l0.length : Int); rotate_left
     ·rw [if_neg c7] at H
      have c7b0 : decide (x5_2 < (l0.length : Int)) = false := decide_eq_false c7; clear c7; have H' := A_ H; clear H
      go_wp2
      go_roundg k2
      case measure => have := HK1.out; have := HK2.out; omega
      case rel => exact ⟨(wrap64 (x4_1 + 1)), (x102000_2), (x102001_2), (x102002_2), eS, H', ⟨by have := HK1.out; have := HK2.out; omega⟩, ⟨bkU BK101⟩, ⟨by repeat (first | (with_reducible first | exact HB.out | apply below_alloc | apply pw_below_drewN | apply below_drew1 | refine below_set ?_ GE101.out) | exact HB.out)⟩⟩
     rw [if_pos c7] at H; have c7b0 : decide (x5_2 < (l0.length : Int)) = true := decide_eq_true c7; clear c7; have H' := A_ H; clear H
     go_wp2
     go_loopg [6] k2 (fun kq v6 w' => ∃ (x6_3 : Int) (x102000_3 : Int) (x102001_3 : Int) (x102002_3 : Int), v6 = .int .i64 x6_3 ∧ Aside0 (dropperref03_Forbid.l2 kq l0 x4_1 x5_2 x6_3 = some (r1, r2, r3, r4)) ∧ Aside0 (kq ≤ k2) ∧ Aside0 (w'.heap[gb101]? = some (.cells #[.int .i64 x102000_3, .int .i64 x102001_3, .int .i64 x102002_3] 31 (0, 0))) ∧ Aside0 (Below w.heap.size w w'))
     case atStart => exact ⟨(wrap64 (x5_2 + 1)), (x102000_2), (x102001_2), (x102002_2), eS, H', ⟨Nat.le_refl _⟩, ⟨bkU BK101⟩, ⟨by repeat (first | (with_reducible first | exact HB.out | apply below_alloc | apply pw_below_drewN | apply below_drew1 | refine below_set ?_ GE101.out) | exact HB.out)⟩⟩
     case round =>
      clear H'
      try clear c1; try clear c2; try clear p2; try clear c3; try clear c6; try clear c6b0; try clear p6; try clear c7; try clear c7b0; try clear p2; try clear p6
      obtain ⟨x6_3, x102000_3, x102001_3, x102002_3, rfl, HA, HK3, BK101, HB⟩ := hrel
      cases gk with
      | zero => exact absurd HA.out (by simp [dropperref03_Forbid.l2])
      | succ k3 =>
       have H := HA.out; clear HA; simp only [dropperref03_Forbid.l2] at H; by_cases c8 : x6_3 < (l0.length : Int); rotate_left
       ·rw [if_neg c8] at H
        have c8b0 : decide (x6_3 < (l0.length : Int)) = false := decide_eq_false c8; clear c8; have H' := A_ H; clear H
        go_wp2
        go_roundg k3
        case measure => have := HK1.out; have := HK2.out; have := HK3.out; omega
        case rel => exact ⟨(wrap64 (x5_2 + 1)), (x102000_3), (x102001_3), (x102002_3), eS, H', ⟨by have := HK1.out; have := HK2.out; have := HK3.out; omega⟩, ⟨bkU BK101⟩, ⟨by repeat (first | (with_reducible first | exact HB.out | apply below_alloc | apply pw_below_drewN | apply below_drew1 | refine below_set ?_ GE101.out) | exact HB.out)⟩⟩
       rw [if_pos c8] at H; have c8b0 : decide (x6_3 < (l0.length : Int)) = true := decide_eq_true c8; clear c8; replace H := Option.bind_eq_some_iff.mp H; obtain ⟨t104, A90, H⟩ := H; (try dsimp only at H); have A9 := A_ A90; clear A90; by_cases c10 : t104 = true; rotate_left
       ·replace c10 := Bool.eq_false_iff.mpr c10
        subst c10; rw [if_neg (show ¬ (false = true) by decide)] at H; have H' := A_ H; clear H
        go_wp2_with (first | ((with_reducible refine gate_dst (N := 7) rfl ?_); refine bxW 7 (cs := #[.int .i64 0, .int .i64 0, .int .i64 0]) (t := 31) ?_; intro gb103 hg w17 hbox hb; have n0_ := A_ (bkB BK101 hb); have n1_ := A_ (below_step (bW1 HB.out GE101.out) hb); have n2_ := A_ (hbox); have n3_ := A_ ((szG hg (bW1 HB.out GE101.out))); have n4_ := A_ ((szG hg (bW1 HB.out GE101.out))); have n5_ := A_ ((bkL BK101 hg : gb101 ≠ gb103)); have n6_ := A_ ((bkG BK101 hg : gb103 ≠ gb101)); clear BK101; clear HB; have BK101 := n0_; have HB := n1_; have BK103 := n2_; have GW103 := n3_; have GE103 := n4_; have NB101_103 := n5_; have NB103_101 := n6_; clear n0_ n1_ n2_ n3_ n4_ n5_ n6_; clear hb hbox hg; have hnb18 := NB103_101.out; have hnc18 := NB101_103.out; have hcz19_0 : w17.cell? ⟨gb103, 0, none⟩ = some (.int .i64 0) := (blk_cell BK103.out 0).trans rfl; have hcz19_1 : w17.cell? ⟨gb103, 1, none⟩ = some (.int .i64 0) := (blk_cell BK103.out 1).trans rfl; have hcz19_2 : w17.cell? ⟨gb103, 2, none⟩ = some (.int .i64 0) := (blk_cell BK103.out 2).trans rfl; have hfz19_0 := blk_frozen BK103.out 0; have hfz19_1 := blk_frozen BK103.out 1; have hfz19_2 := blk_frozen BK103.out 2) | ((with_reducible refine gate_callee (f := 54) rfl ?_); refine goesW_ (some 40) Try.func54 #[.slice A0 l0.length c0, .agg #[.int .i64 x4_1, .int .i64 x5_2, .int .i64 x6_3]] ?_; (with_reducible refine (dropperref03_forbids.calls _ _ l0 x4_1 x5_2 x6_3 false _ ?side1 ?side2 A9.out).mono ?_); (case side1 => exact Kd.C_below HR0.out (bW2 HB.out GE101.out GE103.out)); (case side2 => exact HC0.out); rintro e w20 ⟨rfl, hb⟩; refine ⟨_, rfl, ?_⟩; have n0_ := A_ (blk_below (g := gb101) (o := .cells #[.int .i64 x102000_3, .int .i64 x102001_3, .int .i64 x102002_3] 31 (0, 0)) (bkF3 BK101 NB101_103) hb); have n1_ := A_ (blk_below (g := gb103) (o := .cells #[.int .i64 x4_1, .int .i64 x5_2, .int .i64 x6_3] 31 (0, 0)) (by (with_reducible repeat (first | refine blk_drewN ?_ _ | refine blk_drew ?_ | refine blk_alloc ?_ _)); refine blk_put (cs := #[.int .i64 x4_1, .int .i64 x5_2, .int .i64 0]) ?_ 2 _ rfl; (with_reducible repeat (first | refine blk_drewN ?_ _ | refine blk_drew ?_ | refine blk_alloc ?_ _)); refine blk_put (cs := #[.int .i64 x4_1, .int .i64 0, .int .i64 0]) ?_ 1 _ rfl; (with_reducible repeat (first | refine blk_drewN ?_ _ | refine blk_drew ?_ | refine blk_alloc ?_ _)); refine blk_put (cs := #[.int .i64 0, .int .i64 0, .int .i64 0]) ?_ 0 _ rfl; exact bkU BK103) hb); have n2_ := A_ (below_step (bW2 HB.out GE101.out GE103.out) hb); clear BK101; clear BK103; clear HB; have BK101 := n0_; have BK103 := n1_; have HB := n2_; clear n0_ n1_ n2_; (try clear hb)))
        go_roundg k3
        case measure => have := HK1.out; have := HK2.out; have := HK3.out; omega
        case rel => exact ⟨(wrap64 (x6_3 + 1)), (x102000_3), (x102001_3), (x102002_3), eS, H', ⟨by have := HK1.out; have := HK2.out; have := HK3.out; omega⟩, ⟨bkU BK101⟩, ⟨by repeat (first | (with_reducible first | exact HB.out | apply below_alloc | apply pw_below_drewN | apply below_drew1 | refine below_set ?_ GE101.out | refine below_set ?_ GE103.out) | exact HB.out)⟩⟩
       subst c10; rw [if_pos rfl] at H; simp only [Option.some.injEq, Prod.mk.injEq] at H; obtain ⟨rfl, rfl, rfl, rfl⟩ := H
       go_wp2_with (first | ((with_reducible refine gate_dst (N := 7) rfl ?_); refine bxW 7 (cs := #[.int .i64 0, .int .i64 0, .int .i64 0]) (t := 31) ?_; intro gb103 hg w11 hbox hb; have n0_ := A_ (bkB BK101 hb); have n1_ := A_ (below_step (bW1 HB.out GE101.out) hb); have n2_ := A_ (hbox); have n3_ := A_ ((szG hg (bW1 HB.out GE101.out))); have n4_ := A_ ((szG hg (bW1 HB.out GE101.out))); have n5_ := A_ ((bkL BK101 hg : gb101 ≠ gb103)); have n6_ := A_ ((bkG BK101 hg : gb103 ≠ gb101)); clear BK101; clear HB; have BK101 := n0_; have HB := n1_; have BK103 := n2_; have GW103 := n3_; have GE103 := n4_; have NB101_103 := n5_; have NB103_101 := n6_; clear n0_ n1_ n2_ n3_ n4_ n5_ n6_; clear hb hbox hg; have hnb12 := NB103_101.out; have hnc12 := NB101_103.out; have hcz13_0 : w11.cell? ⟨gb103, 0, none⟩ = some (.int .i64 0) := (blk_cell BK103.out 0).trans rfl; have hcz13_1 : w11.cell? ⟨gb103, 1, none⟩ = some (.int .i64 0) := (blk_cell BK103.out 1).trans rfl; have hcz13_2 : w11.cell? ⟨gb103, 2, none⟩ = some (.int .i64 0) := (blk_cell BK103.out 2).trans rfl; have hfz13_0 := blk_frozen BK103.out 0; have hfz13_1 := blk_frozen BK103.out 1; have hfz13_2 := blk_frozen BK103.out 2) | ((with_reducible refine gate_callee (f := 54) rfl ?_); refine goesW_ (some 40) Try.func54 #[.slice A0 l0.length c0, .agg #[.int .i64 x4_1, .int .i64 x5_2, .int .i64 x6_3]] ?_; (with_reducible refine (dropperref03_forbids.calls _ _ l0 x4_1 x5_2 x6_3 true _ ?side1 ?side2 A9.out).mono ?_); (case side1 => exact Kd.C_below HR0.out (bW2 HB.out GE101.out GE103.out)); (case side2 => exact HC0.out); rintro e w14 ⟨rfl, hb⟩; refine ⟨_, rfl, ?_⟩; have n0_ := A_ (blk_below (g := gb101) (o := .cells #[.int .i64 x102000_3, .int .i64 x102001_3, .int .i64 x102002_3] 31 (0, 0)) (bkF3 BK101 NB101_103) hb); have n1_ := A_ (blk_below (g := gb103) (o := .cells #[.int .i64 x4_1, .int .i64 x5_2, .int .i64 x6_3] 31 (0, 0)) (by (with_reducible repeat (first | refine blk_drewN ?_ _ | refine blk_drew ?_ | refine blk_alloc ?_ _)); refine blk_put (cs := #[.int .i64 x4_1, .int .i64 x5_2, .int .i64 0]) ?_ 2 _ rfl; (with_reducible repeat (first | refine blk_drewN ?_ _ | refine blk_drew ?_ | refine blk_alloc ?_ _)); refine blk_put (cs := #[.int .i64 x4_1, .int .i64 0, .int .i64 0]) ?_ 1 _ rfl; (with_reducible repeat (first | refine blk_drewN ?_ _ | refine blk_drew ?_ | refine blk_alloc ?_ _)); refine blk_put (cs := #[.int .i64 0, .int .i64 0, .int .i64 0]) ?_ 0 _ rfl; exact bkU BK103) hb); have n2_ := A_ (below_step (bW2 HB.out GE101.out GE103.out) hb); clear BK101; clear BK103; clear HB; have BK101 := n0_; have BK103 := n1_; have HB := n2_; clear n0_ n1_ n2_; (try clear hb); have hcz15_0 : w14.cell? ⟨gb103, 0, none⟩ = some (.int .i64 x4_1) := (blk_cell BK103.out 0).trans rfl; have hcz15_1 : w14.cell? ⟨gb103, 1, none⟩ = some (.int .i64 x5_2) := (blk_cell BK103.out 1).trans rfl; have hcz15_2 : w14.cell? ⟨gb103, 2, none⟩ = some (.int .i64 x6_3) := (blk_cell BK103.out 2).trans rfl; have hfz15_0 := blk_frozen BK103.out 0; have hfz15_1 := blk_frozen BK103.out 1; have hfz15_2 := blk_frozen BK103.out 2; have hcz16_0 : w14.cell? ⟨gb101, 0, none⟩ = some (.int .i64 x102000_3) := (blk_cell BK101.out 0).trans rfl; have hcz16_1 : w14.cell? ⟨gb101, 1, none⟩ = some (.int .i64 x102001_3) := (blk_cell BK101.out 1).trans rfl; have hcz16_2 : w14.cell? ⟨gb101, 2, none⟩ = some (.int .i64 x102002_3) := (blk_cell BK101.out 2).trans rfl; have hfz16_0 := blk_frozen BK101.out 0; have hfz16_1 := blk_frozen BK101.out 1; have hfz16_2 := blk_frozen BK101.out 2))
       refine bodyPost_ret (results_ct rfl _ _ gb101 31 #[.int .i64 x4_1, .int .i64 x5_2, .int .i64 x6_3] (0, 0) _ rfl (by (with_reducible repeat (first | refine blk_drewN ?_ _ | refine blk_drew ?_ | refine blk_alloc ?_ _)); refine blk_put (cs := #[.int .i64 x4_1, .int .i64 x5_2, .int .i64 x102002_3]) ?_ 2 _ rfl; (with_reducible repeat (first | refine blk_drewN ?_ _ | refine blk_drew ?_ | refine blk_alloc ?_ _)); refine blk_put (cs := #[.int .i64 x4_1, .int .i64 x102001_3, .int .i64 x102002_3]) ?_ 1 _ rfl; (with_reducible repeat (first | refine blk_drewN ?_ _ | refine blk_drew ?_ | refine blk_alloc ?_ _)); refine blk_put (cs := #[.int .i64 x102000_3, .int .i64 x102001_3, .int .i64 x102002_3]) ?_ 0 _ rfl; exact bkU BK101) Try.underlying31 rfl (by kernel_rfl)) rfl ?_
       exact ⟨eQ, by repeat (first | (with_reducible first | exact HB.out | apply below_alloc | apply pw_below_drewN | apply below_drew1 | refine below_set ?_ GE101.out | refine below_set ?_ GE103.out) | exact HB.out)⟩
end Go.Proofs.Ytiapmkndgalgnaa.G
