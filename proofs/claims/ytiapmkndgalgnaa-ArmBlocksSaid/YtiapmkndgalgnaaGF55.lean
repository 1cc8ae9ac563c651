-- Written by this session's driver (wip/tools/printmore.py) over the kit's print, with hand-written parts.
import Derived.Test.YtiapmkndgalgnaaGBase
import Derived.Test.YtiapmkndgalgnaaGF52
import Derived.Test.YtiapmkndgalgnaaGF56
namespace Go.Proofs.Ytiapmkndgalgnaa.G
open Go.RowKit Go.Proofs.YtiapmkndgalgnaaW.PrintWords Go.Proofs.YtiapmkndgalgnaaW.PrintLast Go.Proofs.YtiapmkndgalgnaaW.PrintMore
attribute [local go_sem] max2_int min2_int max_two min_two max_three min_three max_four min_four   -- for this text's walks alone
set_option linter.unusedVariables false
set_option linter.unusedSimpArgs false

/-! ### arm_slopes: function 55 -/
mutual
def arm_slopes.l0 : Nat → List (S73) → Bool → List (S73) → Int → Int → Int → Int → Int → Int → Option (Int × Int × Int × Int × Bool)
  | 0, _, _, _, _, _, _, _, _, _ => none
  | k + 1, x0, x4, x12, x13, x14, x102000, x102001, x103000, x103001 => if x14 < x13 then (if 0 ≤ x14 then (if x14 < (x12.length : Int) then (if x14 ≤ (x0.length : Int) then ((some (x0.take (x14 : Int).toNat : List (S73))).bind fun y105 => (arm_slopes.l1 k x0 x4 x12 x13 x14 y105 (y105.length : Int) 0 x102000 x102001 x103000 x103001 ((rd_T73 x12 x14).f0) ((rd_T73 x12 x14).f1) ((rd_T73 x12 x14).f2))) else (none)) else (none)) else (none)) else (some (x102000, x102001, x103000, x103001, x4))
def arm_slopes.l1 : Nat → List (S73) → Bool → List (S73) → Int → Int → List (S73) → Int → Int → Int → Int → Int → Int → Int → Int → Int → Option (Int × Int × Int × Int × Bool)
  | 0, _, _, _, _, _, _, _, _, _, _, _, _, _, _, _ => none
  | k + 1, x0, x4, x12, x13, x14, x21, x22, x23, x102000, x102001, x103000, x103001, x105000, x105001, x105002 => if x23 < x22 then (if 0 ≤ x23 then (if x23 < (x21.length : Int) then ((arm_lowest.f k (wrap64 (x105001 - ((rd_T73 x21 x23).f2))) (wrap64 (x105000 - ((rd_T73 x21 x23).f0)))).bind fun bt111 => ((arm_lowest.f k (wrap64 (x105002 - ((rd_T73 x21 x23).f1))) (wrap64 (x105000 - ((rd_T73 x21 x23).f0)))).bind fun bt113 => (if x4 = true then ((arm_less.f x102000 x102001 bt111.1 bt111.2).bind fun t117 => (arm_slopes.j2 k x0 x4 x12 x13 x14 x21 x22 x23 t117 x102000 x102001 x103000 x103001 x105000 x105001 x105002 bt111.1 bt111.2 bt113.1 bt113.2)) else (arm_slopes.j2 k x0 x4 x12 x13 x14 x21 x22 x23 true x102000 x102001 x103000 x103001 x105000 x105001 x105002 bt111.1 bt111.2 bt113.1 bt113.2)))) else (none)) else (none)) else (arm_slopes.l0 k x0 x4 x12 x13 (wrap64 (x14 + 1)) x102000 x102001 x103000 x103001)
def arm_slopes.j2 : Nat → List (S73) → Bool → List (S73) → Int → Int → List (S73) → Int → Int → Bool → Int → Int → Int → Int → Int → Int → Int → Int → Int → Int → Int → Option (Int × Int × Int × Int × Bool)
  | 0, _, _, _, _, _, _, _, _, _, _, _, _, _, _, _, _, _, _, _, _ => none
  | k + 1, x0, x4, x12, x13, x14, x21, x22, x23, x52, x102000, x102001, x103000, x103001, x105000, x105001, x105002, x116000, x116001, x117000, x117001 => if x52 = true then (if x4 = true then ((arm_less.f x117000 x117001 x103000 x103001).bind fun t118 => (if t118 = true then (arm_slopes.l1 k x0 true x12 x13 x14 x21 x22 (wrap64 (x23 + 1)) x116000 x116001 x117000 x117001 x105000 x105001 x105002) else (arm_slopes.l1 k x0 true x12 x13 x14 x21 x22 (wrap64 (x23 + 1)) x116000 x116001 x103000 x103001 x105000 x105001 x105002))) else (arm_slopes.l1 k x0 true x12 x13 x14 x21 x22 (wrap64 (x23 + 1)) x116000 x116001 x117000 x117001 x105000 x105001 x105002)) else (if x4 = true then ((arm_less.f x117000 x117001 x103000 x103001).bind fun t119 => (if t119 = true then (arm_slopes.l1 k x0 true x12 x13 x14 x21 x22 (wrap64 (x23 + 1)) x102000 x102001 x117000 x117001 x105000 x105001 x105002) else (arm_slopes.l1 k x0 true x12 x13 x14 x21 x22 (wrap64 (x23 + 1)) x102000 x102001 x103000 x103001 x105000 x105001 x105002))) else (arm_slopes.l1 k x0 true x12 x13 x14 x21 x22 (wrap64 (x23 + 1)) x102000 x102001 x117000 x117001 x105000 x105001 x105002))
end
def arm_slopes.f (k : Nat) (l0 : List (S73)) : Option (Int × Int × Int × Int × Bool) := arm_slopes.l0 k l0 false l0 (l0.length : Int) 0 0 0 0 0
theorem arm_slopes.mono_l : ∀ k, (∀ y0 y1 y2 y3 y4 y5 y6 y7 y8, LeO (arm_slopes.l0 k y0 y1 y2 y3 y4 y5 y6 y7 y8) (arm_slopes.l0 (k + 1) y0 y1 y2 y3 y4 y5 y6 y7 y8)) ∧ (∀ y0 y1 y2 y3 y4 y5 y6 y7 y8 y9 y10 y11 y12 y13 y14, LeO (arm_slopes.l1 k y0 y1 y2 y3 y4 y5 y6 y7 y8 y9 y10 y11 y12 y13 y14) (arm_slopes.l1 (k + 1) y0 y1 y2 y3 y4 y5 y6 y7 y8 y9 y10 y11 y12 y13 y14)) ∧ (∀ y0 y1 y2 y3 y4 y5 y6 y7 y8 y9 y10 y11 y12 y13 y14 y15 y16 y17 y18 y19, LeO (arm_slopes.j2 k y0 y1 y2 y3 y4 y5 y6 y7 y8 y9 y10 y11 y12 y13 y14 y15 y16 y17 y18 y19) (arm_slopes.j2 (k + 1) y0 y1 y2 y3 y4 y5 y6 y7 y8 y9 y10 y11 y12 y13 y14 y15 y16 y17 y18 y19))
  | 0 => ⟨fun _ _ _ _ _ _ _ _ _ r h => by simp [arm_slopes.l0] at h, fun _ _ _ _ _ _ _ _ _ _ _ _ _ _ _ r h => by simp [arm_slopes.l1] at h, fun _ _ _ _ _ _ _ _ _ _ _ _ _ _ _ _ _ _ _ _ r h => by simp [arm_slopes.j2] at h⟩
  | k + 1 => by
    obtain ⟨ih0, ih1, ih2⟩ := arm_slopes.mono_l k
    refine ⟨?_, ?_, ?_⟩
    · intro y0 y1 y2 y3 y4 y5 y6 y7 y8
      unfold arm_slopes.l0
      repeat' first
      | (with_reducible exact ih0 _ _ _ _ _ _ _ _ _)
      | (with_reducible exact ih1 _ _ _ _ _ _ _ _ _ _ _ _ _ _ _)
      | (with_reducible exact ih2 _ _ _ _ _ _ _ _ _ _ _ _ _ _ _ _ _ _ _ _)
      | (with_reducible exact arm_lowest.mono _ _ _)
      | (with_reducible exact LeO.refl _)
      | (with_reducible exact LeO.none _)
      | (with_reducible refine LeO.ite ?_ ?_)
      | (with_reducible refine LeO.bind ?_ (fun _ => ?_))
      | exact ih0 _ _ _ _ _ _ _ _ _
      | exact ih1 _ _ _ _ _ _ _ _ _ _ _ _ _ _ _
      | exact ih2 _ _ _ _ _ _ _ _ _ _ _ _ _ _ _ _ _ _ _ _
      | exact arm_lowest.mono _ _ _
      | exact LeO.none _
      | refine LeO.ite ?_ ?_
      | refine LeO.bind ?_ (fun _ => ?_)
    · intro y0 y1 y2 y3 y4 y5 y6 y7 y8 y9 y10 y11 y12 y13 y14
      unfold arm_slopes.l1
      repeat' first
      | (with_reducible exact ih0 _ _ _ _ _ _ _ _ _)
      | (with_reducible exact ih1 _ _ _ _ _ _ _ _ _ _ _ _ _ _ _)
      | (with_reducible exact ih2 _ _ _ _ _ _ _ _ _ _ _ _ _ _ _ _ _ _ _ _)
      | (with_reducible exact arm_lowest.mono _ _ _)
      | (with_reducible exact LeO.refl _)
      | (with_reducible exact LeO.none _)
      | (with_reducible refine LeO.ite ?_ ?_)
      | (with_reducible refine LeO.bind ?_ (fun _ => ?_))
      | exact ih0 _ _ _ _ _ _ _ _ _
      | exact ih1 _ _ _ _ _ _ _ _ _ _ _ _ _ _ _
      | exact ih2 _ _ _ _ _ _ _ _ _ _ _ _ _ _ _ _ _ _ _ _
      | exact arm_lowest.mono _ _ _
      | exact LeO.none _
      | refine LeO.ite ?_ ?_
      | refine LeO.bind ?_ (fun _ => ?_)
    · intro y0 y1 y2 y3 y4 y5 y6 y7 y8 y9 y10 y11 y12 y13 y14 y15 y16 y17 y18 y19
      unfold arm_slopes.j2
      repeat' first
      | (with_reducible exact ih0 _ _ _ _ _ _ _ _ _)
      | (with_reducible exact ih1 _ _ _ _ _ _ _ _ _ _ _ _ _ _ _)
      | (with_reducible exact ih2 _ _ _ _ _ _ _ _ _ _ _ _ _ _ _ _ _ _ _ _)
      | (with_reducible exact arm_lowest.mono _ _ _)
      | (with_reducible exact LeO.refl _)
      | (with_reducible exact LeO.none _)
      | (with_reducible refine LeO.ite ?_ ?_)
      | (with_reducible refine LeO.bind ?_ (fun _ => ?_))
      | exact ih0 _ _ _ _ _ _ _ _ _
      | exact ih1 _ _ _ _ _ _ _ _ _ _ _ _ _ _ _
      | exact ih2 _ _ _ _ _ _ _ _ _ _ _ _ _ _ _ _ _ _ _ _
      | exact arm_lowest.mono _ _ _
      | exact LeO.none _
      | refine LeO.ite ?_ ?_
      | refine LeO.bind ?_ (fun _ => ?_)
theorem arm_slopes.mono : ∀ a0 k, LeO (arm_slopes.f k a0) (arm_slopes.f (k + 1) a0) := by
  intro a0 k
  obtain ⟨ih0, ih1, ih2⟩ := arm_slopes.mono_l k
  unfold arm_slopes.f
  repeat' first
      | (with_reducible exact ih0 _ _ _ _ _ _ _ _ _)
      | (with_reducible exact ih1 _ _ _ _ _ _ _ _ _ _ _ _ _ _ _)
      | (with_reducible exact ih2 _ _ _ _ _ _ _ _ _ _ _ _ _ _ _ _ _ _ _ _)
      | (with_reducible exact arm_lowest.mono _ _ _)
      | (with_reducible exact LeO.refl _)
      | (with_reducible exact LeO.none _)
      | (with_reducible refine LeO.ite ?_ ?_)
      | (with_reducible refine LeO.bind ?_ (fun _ => ?_))
      | exact ih0 _ _ _ _ _ _ _ _ _
      | exact ih1 _ _ _ _ _ _ _ _ _ _ _ _ _ _ _
      | exact ih2 _ _ _ _ _ _ _ _ _ _ _ _ _ _ _ _ _ _ _ _
      | exact arm_lowest.mono _ _ _
      | exact LeO.none _
      | refine LeO.ite ?_ ?_
      | refine LeO.bind ?_ (fun _ => ?_)
def arm_slopes.T8 : Bool × List (List Nat × List Nat) := (true, [([], []), ([0], [0]), ([], []), ([2], [2]), ([1, 3], [1, 3]), ([], []), ([4, 5], [4, 5]), ([], []), ([7], [7]), ([], []), ([9], [9]), ([8, 10], [8, 10]), ([], []), ([11, 12, 6], [11, 12]), ([], []), ([], []), ([14, 6, 13, 0, 1, 2, 3, 4, 5, 6, 14, 15], [6, 14]), ([15, 13, 16, 0, 1, 2, 3, 4, 5, 6, 7, 8, 9, 10, 11, 12, 13, 14, 15, 16], [13, 15])])
def arm_slopes.B8 : List Nat := [0, 1, 0, 4, 15, 0, 63, 0, 128, 0, 512, 1920, 0, 8191, 0, 0, 65535, 131071]
theorem arm_slopes.tab8 : rtab .any (opsOf Try.f55 8) = arm_slopes.T8 := by kernel_rfl
theorem arm_slopes.bits8 : waitsOk arm_slopes.T8.2 arm_slopes.B8 = true := by kernel_rfl
set_option maxHeartbeats 8000000 in
set_option maxRecDepth 100000 in
theorem arm_slopes.calls (k : Nat) (A0 : Option Addr) (c0 : Nat) (l0 : List (S73)) (r1 : Int) (r2 : Int) (r3 : Int) (r4 : Int) (r5 : Bool) (w : World) (hr0 : Kd.C k73 w A0 l0.length l0) (hc0 : l0.length ≤ c0) (h : arm_slopes.f k l0 = some (r1, r2, r3, r4, r5)) :
    Calls Try.prog 55 #[.slice A0 l0.length c0] w fun e w' => e = .returned (.tuple #[.agg #[.int .i64 r1, .int .i64 r2], .agg #[.int .i64 r3, .int .i64 r4], .bool r5]) ∧ Below w.heap.size w w' := by
  have hu24 := Try.underlying24
  have hu73 := Try.underlying73
  have HR0 := Aside0.mk hr0
  have HC0 := Aside0.mk hc0
  clear hr0 hc0
  have HB := Aside0.mk (Below.refl w.heap.size w)
  have H : (arm_slopes.l0 k l0 false l0 (l0.length : Int) 0 0 0 0 0) = some (r1, r2, r3, r4, r5) := h
  clear h
  have H' := Aside0.mk H
  clear H
  go_enter Try.func55, Try.ntmps55
  go_wp2_with (first | ((with_reducible refine gate_dst (N := 2) rfl ?_); refine box_event ?hg (N := 2) ?hd (cs := #[.int .i64 0, .int .i64 0]) (t := 24) ?hr ?_; (case hd => rfl); (case hg => rfl); (case hr => first | (go_simp; done) | (go_simp; rfl)); intro gb101 hg w2 hbox hb; have n0_ := Aside0.mk (below_step (by repeat (first | (with_reducible first | exact HB.out | apply below_alloc | apply pw_below_drewN | apply below_drew1) | exact HB.out)) hb); have n1_ := Aside0.mk (hbox); have n2_ := Aside0.mk ((by rw [hg]; exact (below_size (by repeat (first | (with_reducible first | exact HB.out | apply below_alloc | apply pw_below_drewN | apply below_drew1) | exact HB.out))) : w.heap.size ≤ gb101)); have n3_ := Aside0.mk ((by rw [hg]; exact (below_size (by repeat (first | (with_reducible first | exact HB.out | apply below_alloc | apply pw_below_drewN | apply below_drew1) | exact HB.out))) : w.heap.size ≤ gb101)); clear HB; have HB := n0_; have BK101 := n1_; have GW101 := n2_; have GE101 := n3_; clear n0_ n1_ n2_ n3_; clear hb hbox hg) | ((with_reducible refine gate_dst (N := 3) rfl ?_); refine box_event ?hg (N := 3) ?hd (cs := #[.int .i64 0, .int .i64 0]) (t := 24) ?hr ?_; (case hd => rfl); (case hg => rfl); (case hr => first | (go_simp; done) | (go_simp; rfl)); intro gb102 hg w3 hbox hb; have n0_ := Aside0.mk (bkB BK101 hb); have n1_ := Aside0.mk (below_step (by repeat (first | (with_reducible first | exact HB.out | apply below_alloc | apply pw_below_drewN | apply below_drew1 | refine below_set ?_ GE101.out) | exact HB.out)) hb); have n2_ := Aside0.mk (hbox); have n3_ := Aside0.mk ((by rw [hg]; exact (below_size (by repeat (first | (with_reducible first | exact HB.out | apply below_alloc | apply pw_below_drewN | apply below_drew1 | refine below_set ?_ GE101.out) | exact HB.out))) : w.heap.size ≤ gb102)); have n4_ := Aside0.mk ((by rw [hg]; exact (below_size (by repeat (first | (with_reducible first | exact HB.out | apply below_alloc | apply pw_below_drewN | apply below_drew1 | refine below_set ?_ GE101.out) | exact HB.out))) : w.heap.size ≤ gb102)); have n5_ := Aside0.mk ((bkL BK101 hg : gb101 ≠ gb102)); have n6_ := Aside0.mk ((bkG BK101 hg : gb102 ≠ gb101)); clear BK101; clear HB; have BK101 := n0_; have HB := n1_; have BK102 := n2_; have GW102 := n3_; have GE102 := n4_; have NB101_102 := n5_; have NB102_101 := n6_; clear n0_ n1_ n2_ n3_ n4_ n5_ n6_; clear hb hbox hg))
  go_loopg [4, 14] k (fun kq v4 v14 w' => ∃ (x4_1 : Bool) (x14_1 : Int) (x102000_1 : Int) (x102001_1 : Int) (x103000_1 : Int) (x103001_1 : Int), v4 = .bool x4_1 ∧ v14 = .int .i64 x14_1 ∧ Aside0 (arm_slopes.l0 kq l0 x4_1 l0 (l0.length : Int) x14_1 x102000_1 x102001_1 x103000_1 x103001_1 = some (r1, r2, r3, r4, r5)) ∧ Aside0 (kq ≤ k) ∧ Aside0 (w'.heap[gb101]? = some (.cells #[.int .i64 x102000_1, .int .i64 x102001_1] 24 (0, 0))) ∧ Aside0 (w'.heap[gb102]? = some (.cells #[.int .i64 x103000_1, .int .i64 x103001_1] 24 (0, 0))) ∧ Aside0 (Below w.heap.size w w'))
  case atStart => exact ⟨(false), (0), (0), (0), (0), (0), (by first | rfl | (simp; done) | (simp [*]; done)), (by first | rfl | (simp; done) | (simp [*]; done)), H', ⟨Nat.le_refl _⟩, ⟨bkU BK101⟩, ⟨bkU BK102⟩, ⟨by repeat (first | (with_reducible first | exact HB.out | apply below_alloc | apply pw_below_drewN | apply below_drew1 | refine below_set ?_ GE101.out | refine below_set ?_ GE102.out) | exact HB.out)⟩⟩
  case round =>
    clear H'
    try clear p2
    obtain ⟨x4_1, x14_1, x102000_1, x102001_1, x103000_1, x103001_1, rfl, rfl, HA, HK1, BK101, BK102, HB⟩ := hrel
    cases gk with
    | zero => exact absurd HA.out (by simp [arm_slopes.l0])
    | succ k1 =>
      have H := HA.out
      clear HA
      simp only [arm_slopes.l0] at H
      by_cases c4 : x14_1 < (l0.length : Int)
      rotate_left
      · rw [if_neg c4] at H
        have c4b0 : decide (x14_1 < (l0.length : Int)) = false := decide_eq_false c4
        clear c4
        simp only [Option.some.injEq, Prod.mk.injEq] at H
        obtain ⟨rfl, rfl, rfl, rfl, rfl⟩ := H
        have b0 : wr.cell? ⟨gb101, 0, none⟩ = some (.int .i64 x102000_1) := (blk_cell BK101.out 0).trans rfl
        have b1 : wr.cell? ⟨gb101, 1, none⟩ = some (.int .i64 x102001_1) := (blk_cell BK101.out 1).trans rfl
        have b2 : wr.cell? ⟨gb102, 0, none⟩ = some (.int .i64 x103000_1) := (blk_cell BK102.out 0).trans rfl
        have b3 : wr.cell? ⟨gb102, 1, none⟩ = some (.int .i64 x103001_1) := (blk_cell BK102.out 1).trans rfl
        have f0 := blk_frozen BK101.out 0
        have f1 := blk_frozen BK101.out 1
        have f2 := blk_frozen BK102.out 0
        have f3 := blk_frozen BK102.out 1
        have hnb := NB101_102.out
        have hnc := NB102_101.out
        go_wp2
        go_region
        go_wp2
        have e1 : (((((wr.setCell { block := gb101, off := 0 } (Value.int IntKind.i64 x102000_1)).setCell { block := gb101, off := 1 } (Value.int IntKind.i64 x102001_1)).setCell { block := gb102, off := 0 } (Value.int IntKind.i64 x103000_1)).setCell { block := gb102, off := 1 } (Value.int IntKind.i64 x103001_1)).drew).heap[gb101]? = some (.cells #[.int .i64 x102000_1, .int .i64 x102001_1] 24 (0, 0)) := blk_drew (blk_far (blk_far (blk_put (cs := #[.int .i64 x102000_1, .int .i64 x102001_1]) (blk_put (cs := #[.int .i64 x102000_1, .int .i64 x102001_1]) BK101.out 0 _ rfl) 1 _ rfl) NB101_102.out _) NB101_102.out _)
        have e2 : (((((wr.setCell { block := gb101, off := 0 } (Value.int IntKind.i64 x102000_1)).setCell { block := gb101, off := 1 } (Value.int IntKind.i64 x102001_1)).setCell { block := gb102, off := 0 } (Value.int IntKind.i64 x103000_1)).setCell { block := gb102, off := 1 } (Value.int IntKind.i64 x103001_1)).drew).heap[gb102]? = some (.cells #[.int .i64 x103000_1, .int .i64 x103001_1] 24 (0, 0)) := blk_drew (blk_put (cs := #[.int .i64 x103000_1, .int .i64 x103001_1]) (blk_put (cs := #[.int .i64 x103000_1, .int .i64 x103001_1]) (blk_far (blk_far BK102.out NB102_101.out _) NB102_101.out _) 0 _ rfl) 1 _ rfl)
        refine bodyPost_ret (results_list (rs := [.cell 2 24, .cell 3 24, .tmp 4]) rfl (by simp) (.cell gb101 24 #[.int .i64 x102000_1, .int .i64 x102001_1] (0, 0) _ rfl e1 Try.underlying24 rfl (by kernel_rfl) (.cell gb102 24 #[.int .i64 x103000_1, .int .i64 x103001_1] (0, 0) _ rfl e2 Try.underlying24 rfl (by kernel_rfl) (.tmp .nil)))) rfl ?_
        exact ⟨rfl, below_drew1 (below_set (below_set (below_set (below_set HB.out GE101.out) GE101.out) GE102.out) GE102.out)⟩

      rw [if_pos c4] at H
      have c4b0 : decide (x14_1 < (l0.length : Int)) = true := decide_eq_true c4
      clear c4
      by_cases c5 : 0 ≤ x14_1
      rotate_left
      · rw [if_neg c5] at H
        exact absurd H (by simp)
      rw [if_pos c5] at H
      have c5b0 : decide (0 ≤ x14_1) = true := decide_eq_true c5
      clear c5
      by_cases c6 : x14_1 < (l0.length : Int)
      rotate_left
      · rw [if_neg c6] at H
        exact absurd H (by simp)
      rw [if_pos c6] at H
      have c6b0 : decide (x14_1 < (l0.length : Int)) = true := decide_eq_true c6
      clear c6
      have c7b0 := eq_true (of_decide_eq_true (by first | (with_reducible assumption) | assumption) : 0 ≤ x14_1)
      by_cases c8 : x14_1 ≤ (l0.length : Int)
      rotate_left
      · rw [if_neg c8] at H
        exact absurd H (by simp)
      rw [if_pos c8] at H
      have c8b0 := eq_true c8
      have c8b1 : decide (x14_1 ≤ (l0.length : Int)) = true := decide_eq_true c8
      clear c8
      obtain ⟨y105, hy105⟩ : ∃ y_ : List (S73), y_ = (l0.take (x14_1 : Int).toNat) := ⟨_, rfl⟩
      replace H : (arm_slopes.l1 k1 l0 x4_1 l0 (l0.length : Int) x14_1 y105 (y105.length : Int) 0 x102000_1 x102001_1 x103000_1 x103001_1 ((rd_T73 l0 x14_1).f0) ((rd_T73 l0 x14_1).f1) ((rd_T73 l0 x14_1).f2)) = some (r1, r2, r3, r4, r5) := by first | (rw [hy105]; with_reducible exact H) | (have H2_ := (Option.bind_some _ _).symm.trans H; rw [hy105]; with_reducible exact H2_) | (have H2_ := (Option.bind_some _ _).symm.trans H; with_reducible exact H2_) | with_reducible exact H | (rw [hy105]; exact H) | exact H
      have Ny105 := Aside0.mk hy105
      clear hy105
      have H' := Aside0.mk H
      clear H
      have p103 : 0 ≤ (x14_1 : Int) := of_decide_eq_true (by first | (with_reducible assumption) | assumption)
      have q103 : x14_1 < (l0.length : Int) := of_decide_eq_true (by first | (with_reducible assumption) | assumption)
      obtain ⟨ad103, e103, hx103_0, hx103_1, hx103_2⟩ := at_T73 HR0.out x14_1 p103 q103
      cases e103
      replace hx103_0 := (HB.out.cell (World.block_lt_of_cell? w _ hx103_0)).trans hx103_0
      replace hx103_1 := (HB.out.cell (World.block_lt_of_cell? w _ hx103_1)).trans hx103_1
      replace hx103_2 := (HB.out.cell (World.block_lt_of_cell? w _ hx103_2)).trans hx103_2
      replace p103 := eq_true p103
      replace q103 := eq_true q103
      go_wp2_with (first | ((with_reducible refine gate_dst (N := 6) rfl ?_); refine box_event ?hg (N := 6) ?hd (cs := #[.int .i64 0, .int .i64 0, .int .i64 0]) (t := 73) ?hr ?_; (case hd => rfl); (case hg => rfl); (case hr => first | (go_simp; done) | (go_simp; rfl)); intro gb104 hg w9 hbox hb; have n0_ := Aside0.mk (bkB BK101 hb); have n1_ := Aside0.mk (bkB BK102 hb); have n2_ := Aside0.mk (below_step (by repeat (first | (with_reducible first | exact HB.out | apply below_alloc | apply pw_below_drewN | apply below_drew1 | refine below_set ?_ GE101.out | refine below_set ?_ GE102.out) | exact HB.out)) hb); have n3_ := Aside0.mk (hbox); have n4_ := Aside0.mk ((by rw [hg]; exact (below_size (by repeat (first | (with_reducible first | exact HB.out | apply below_alloc | apply pw_below_drewN | apply below_drew1 | refine below_set ?_ GE101.out | refine below_set ?_ GE102.out) | exact HB.out))) : w.heap.size ≤ gb104)); have n5_ := Aside0.mk ((by rw [hg]; exact (below_size (by repeat (first | (with_reducible first | exact HB.out | apply below_alloc | apply pw_below_drewN | apply below_drew1 | refine below_set ?_ GE101.out | refine below_set ?_ GE102.out) | exact HB.out))) : w.heap.size ≤ gb104)); have n6_ := Aside0.mk ((bkL BK101 hg : gb101 ≠ gb104)); have n7_ := Aside0.mk ((bkG BK101 hg : gb104 ≠ gb101)); have n8_ := Aside0.mk ((bkL BK102 hg : gb102 ≠ gb104)); have n9_ := Aside0.mk ((bkG BK102 hg : gb104 ≠ gb102)); clear BK101; clear BK102; clear HB; have BK101 := n0_; have BK102 := n1_; have HB := n2_; have BK104 := n3_; have GW104 := n4_; have GE104 := n5_; have NB101_104 := n6_; have NB104_101 := n7_; have NB102_104 := n8_; have NB104_102 := n9_; clear n0_ n1_ n2_ n3_ n4_ n5_ n6_ n7_ n8_ n9_; clear hb hbox hg; have hnb10 := NB104_101.out; have hnc10 := NB101_104.out; have hnb11 := NB104_102.out; have hnc11 := NB102_104.out; have hcz12_0 : w9.cell? ⟨gb104, 0, none⟩ = some (.int .i64 0) := (blk_cell BK104.out 0).trans rfl; have hcz12_1 : w9.cell? ⟨gb104, 1, none⟩ = some (.int .i64 0) := (blk_cell BK104.out 1).trans rfl; have hcz12_2 : w9.cell? ⟨gb104, 2, none⟩ = some (.int .i64 0) := (blk_cell BK104.out 2).trans rfl; have hfz12_0 := blk_frozen BK104.out 0; have hfz12_1 := blk_frozen BK104.out 1; have hfz12_2 := blk_frozen BK104.out 2) | ((with_reducible refine gate_store (t := 73) (p := 6) rfl ?_); refine store_event (t := 73) (p := 6) (v := ?vo_w13) (w1 := (((w9.setCell ⟨gb104, 0, none⟩ (.int .i64 ((rd_T73 l0 x14_1).f0))).setCell ⟨gb104, 1, none⟩ (.int .i64 ((rd_T73 l0 x14_1).f1))).setCell ⟨gb104, 2, none⟩ (.int .i64 ((rd_T73 l0 x14_1).f2)))) ?hg ?ho ?hn ?hr ?_; (case ho => rfl); (case hg => rfl); (case hn => rfl); (case hr => first | (go_simp; done) | (go_simp; rfl)); intro w13 hw; have n0_ : Aside0 (w13.heap[gb101]? = some (.cells #[.int .i64 x102000_1, .int .i64 x102001_1] 24 (0, 0))) := ⟨(by rw [hw]; exact (bkF3 BK101 NB101_104))⟩; have n1_ : Aside0 (w13.heap[gb102]? = some (.cells #[.int .i64 x103000_1, .int .i64 x103001_1] 24 (0, 0))) := ⟨(by rw [hw]; exact (bkF3 BK102 NB102_104))⟩; have n2_ : Aside0 (w13.heap[gb104]? = some (.cells #[.int .i64 ((rd_T73 l0 x14_1).f0), .int .i64 ((rd_T73 l0 x14_1).f1), .int .i64 ((rd_T73 l0 x14_1).f2)] 73 (0, 0))) := ⟨(by rw [hw]; exact (by (with_reducible repeat (first | refine blk_drewN ?_ _ | refine blk_drew ?_ | refine blk_alloc ?_ _)); refine blk_put (cs := #[.int .i64 ((rd_T73 l0 x14_1).f0), .int .i64 ((rd_T73 l0 x14_1).f1), .int .i64 0]) ?_ 2 _ rfl; (with_reducible repeat (first | refine blk_drewN ?_ _ | refine blk_drew ?_ | refine blk_alloc ?_ _)); refine blk_put (cs := #[.int .i64 ((rd_T73 l0 x14_1).f0), .int .i64 0, .int .i64 0]) ?_ 1 _ rfl; (with_reducible repeat (first | refine blk_drewN ?_ _ | refine blk_drew ?_ | refine blk_alloc ?_ _)); refine blk_put (cs := #[.int .i64 0, .int .i64 0, .int .i64 0]) ?_ 0 _ rfl; (with_reducible repeat (first | refine blk_drewN ?_ _ | refine blk_drew ?_ | refine blk_alloc ?_ _)); exact BK104.out))⟩; have n3_ : Aside0 (Below w.heap.size w w13) := ⟨(by rw [hw]; exact (by repeat (first | (with_reducible first | exact HB.out | apply below_alloc | apply pw_below_drewN | apply below_drew1 | refine below_set ?_ GE101.out | refine below_set ?_ GE102.out | refine below_set ?_ GE104.out) | exact HB.out)))⟩; clear hw; clear BK101; clear BK102; clear BK104; clear HB; have BK101 := n0_; have BK102 := n1_; have BK104 := n2_; have HB := n3_; clear n0_ n1_ n2_ n3_; have q14 : (x14_1 : Int) ≤ ((l0.length : Int) : Int) := of_decide_eq_true (by first | (with_reducible assumption) | assumption); obtain ⟨i014, hi014, _, hsz14, _⟩ := info_parts info73; have hroom14 : l0.length ≤ c0 := HC0.out; have hC14 : Kd.C k73 _ (some ad103) l0.length l0 := HR0.out; have hcut14 := cut_to (P := Try.prog) 30 73 .i64 Try.underlying30 hi014 (some ad103) l0.length c0 x14_1 (of_decide_eq_true (by first | (with_reducible assumption) | assumption)) q14 hroom14; have hr14 := Kd.C_take (m := (x14_1 : Int).toNat) hC14 (by omega); have hy14 : y105.length = (x14_1 : Int).toNat := (by rw [Ny105.out, List.length_take]; omega); rw [← Ny105.out] at hr14; rw [← hy14] at hcut14; have HR108 := Aside0.mk hr14; have HC108 := Aside0.mk (show y105.length ≤ c0 from by omega); clear hr14 hC14 hroom14 hi014 hsz14; have KY14 := Aside0.mk hy14; clear hy14; replace q14 := eq_true q14))
      go_loopg [4, 23] k1 (fun kq v4 v23 w' => ∃ (x4_2 : Bool) (x23_2 : Int) (x102000_2 : Int) (x102001_2 : Int) (x103000_2 : Int) (x103001_2 : Int), v4 = .bool x4_2 ∧ v23 = .int .i64 x23_2 ∧ Aside0 (arm_slopes.l1 kq l0 x4_2 l0 (l0.length : Int) x14_1 y105 (y105.length : Int) x23_2 x102000_2 x102001_2 x103000_2 x103001_2 ((rd_T73 l0 x14_1).f0) ((rd_T73 l0 x14_1).f1) ((rd_T73 l0 x14_1).f2) = some (r1, r2, r3, r4, r5)) ∧ Aside0 (kq ≤ k1) ∧ Aside0 (w'.heap[gb101]? = some (.cells #[.int .i64 x102000_2, .int .i64 x102001_2] 24 (0, 0))) ∧ Aside0 (w'.heap[gb102]? = some (.cells #[.int .i64 x103000_2, .int .i64 x103001_2] 24 (0, 0))) ∧ Aside0 (w'.heap[gb104]? = some (.cells #[.int .i64 ((rd_T73 l0 x14_1).f0), .int .i64 ((rd_T73 l0 x14_1).f1), .int .i64 ((rd_T73 l0 x14_1).f2)] 73 (0, 0))) ∧ Aside0 (Below w.heap.size w w'))
      case atStart => exact ⟨(x4_1), (0), (x102000_1), (x102001_1), (x103000_1), (x103001_1), (by first | rfl | (simp; done) | (simp [*]; done)), (by first | rfl | (simp; done) | (simp [*]; done)), H', ⟨Nat.le_refl _⟩, ⟨bkU BK101⟩, ⟨bkU BK102⟩, ⟨bkU BK104⟩, ⟨by repeat (first | (with_reducible first | exact HB.out | apply below_alloc | apply pw_below_drewN | apply below_drew1 | refine below_set ?_ GE101.out | refine below_set ?_ GE102.out | refine below_set ?_ GE104.out) | exact HB.out)⟩⟩
      case round =>
        clear H'
        try clear c1
        try clear p1
        try clear q1
        try clear hx1
        try clear p2
        try clear c4
        try clear c4b0
        try clear c5
        try clear c5b0
        try clear c6
        try clear c6b0
        try clear c7
        try clear c7b0
        try clear c8
        try clear c8b0
        try clear c8b1
        try clear c10
        try clear p10
        try clear q10
        try clear hx10
        try clear c11
        try clear q14
        try clear hcz12_0
        try clear hcz12_1
        try clear hcz12_2
        try clear hfz12_0
        try clear hfz12_1
        try clear hfz12_2
        try clear hx103_0
        try clear hx103_1
        try clear hx103_2
        try clear p103
        try clear p2
        try clear q103
        try clear q14
        obtain ⟨x4_2, x23_2, x102000_2, x102001_2, x103000_2, x103001_2, rfl, rfl, HA, HK2, BK101, BK102, BK104, HB⟩ := hrel
        cases gk with
        | zero => exact absurd HA.out (by simp [arm_slopes.l1])
        | succ k2 =>
          have H := HA.out
          clear HA
          simp only [arm_slopes.l1] at H
          by_cases c15 : x23_2 < (y105.length : Int)
          rotate_left
          · rw [if_neg c15] at H
            have c15b0 : decide (x23_2 < (y105.length : Int)) = false := decide_eq_false c15
            clear c15
            have H' := Aside0.mk H
            clear H
            go_wp2
            go_roundg k2
            case measure => have := HK1.out; have := HK2.out; omega
            case rel => exact ⟨(x4_2), (wrap64 (x14_1 + 1)), (x102000_2), (x102001_2), (x103000_2), (x103001_2), (by first | rfl | (simp; done) | (simp [*]; done)), (by first | rfl | (simp; done) | (simp [*]; done)), H', ⟨by have := HK1.out; have := HK2.out; omega⟩, ⟨bkU BK101⟩, ⟨bkU BK102⟩, ⟨by repeat (first | (with_reducible first | exact HB.out | apply below_alloc | apply pw_below_drewN | apply below_drew1 | refine below_set ?_ GE101.out | refine below_set ?_ GE102.out | refine below_set ?_ GE104.out) | exact HB.out)⟩⟩
          rw [if_pos c15] at H
          have c15b0 : decide (x23_2 < (y105.length : Int)) = true := decide_eq_true c15
          clear c15
          by_cases c16 : 0 ≤ x23_2
          rotate_left
          · rw [if_neg c16] at H
            exact absurd H (by simp)
          rw [if_pos c16] at H
          have c16b0 : decide (0 ≤ x23_2) = true := decide_eq_true c16
          clear c16
          by_cases c17 : x23_2 < (y105.length : Int)
          rotate_left
          · rw [if_neg c17] at H
            exact absurd H (by simp)
          rw [if_pos c17] at H
          have c17b0 : decide (x23_2 < (y105.length : Int)) = true := decide_eq_true c17
          clear c17
          replace H := Option.bind_eq_some_iff.mp H
          obtain ⟨⟨t111, t112⟩, A180, H⟩ := H
          replace H : ((arm_lowest.f k2 (wrap64 (((rd_T73 l0 x14_1).f2) - ((rd_T73 y105 x23_2).f1))) (wrap64 (((rd_T73 l0 x14_1).f0) - ((rd_T73 y105 x23_2).f0)))).bind fun bt113 => (if x4_2 = true then ((arm_less.f x102000_2 x102001_2 t111 t112).bind fun t117 => (arm_slopes.j2 k2 l0 x4_2 l0 (l0.length : Int) x14_1 y105 (y105.length : Int) x23_2 t117 x102000_2 x102001_2 x103000_2 x103001_2 ((rd_T73 l0 x14_1).f0) ((rd_T73 l0 x14_1).f1) ((rd_T73 l0 x14_1).f2) t111 t112 bt113.1 bt113.2)) else (arm_slopes.j2 k2 l0 x4_2 l0 (l0.length : Int) x14_1 y105 (y105.length : Int) x23_2 true x102000_2 x102001_2 x103000_2 x103001_2 ((rd_T73 l0 x14_1).f0) ((rd_T73 l0 x14_1).f1) ((rd_T73 l0 x14_1).f2) t111 t112 bt113.1 bt113.2))) = some (r1, r2, r3, r4, r5) := H
          have A18 := Aside0.mk A180
          clear A180
          replace H := Option.bind_eq_some_iff.mp H
          obtain ⟨⟨t113, t114⟩, A190, H⟩ := H
          replace H : (if x4_2 = true then ((arm_less.f x102000_2 x102001_2 t111 t112).bind fun t117 => (arm_slopes.j2 k2 l0 x4_2 l0 (l0.length : Int) x14_1 y105 (y105.length : Int) x23_2 t117 x102000_2 x102001_2 x103000_2 x103001_2 ((rd_T73 l0 x14_1).f0) ((rd_T73 l0 x14_1).f1) ((rd_T73 l0 x14_1).f2) t111 t112 t113 t114)) else (arm_slopes.j2 k2 l0 x4_2 l0 (l0.length : Int) x14_1 y105 (y105.length : Int) x23_2 true x102000_2 x102001_2 x103000_2 x103001_2 ((rd_T73 l0 x14_1).f0) ((rd_T73 l0 x14_1).f1) ((rd_T73 l0 x14_1).f2) t111 t112 t113 t114)) = some (r1, r2, r3, r4, r5) := H
          have A19 := Aside0.mk A190
          clear A190
          have HC20 := Aside0.mk H
          clear H
          have p109 : 0 ≤ (x23_2 : Int) := of_decide_eq_true (by first | (with_reducible assumption) | assumption)
          have q109 : x23_2 < (y105.length : Int) := of_decide_eq_true (by first | (with_reducible assumption) | assumption)
          obtain ⟨ad109, e109, hx109_0, hx109_1, hx109_2⟩ := at_T73 HR108.out x23_2 p109 q109
          obtain rfl : ad103 = ad109 := (by injection e109)
          replace hx109_0 := (HB.out.cell (World.block_lt_of_cell? w _ hx109_0)).trans hx109_0
          replace hx109_1 := (HB.out.cell (World.block_lt_of_cell? w _ hx109_1)).trans hx109_1
          replace hx109_2 := (HB.out.cell (World.block_lt_of_cell? w _ hx109_2)).trans hx109_2
          replace p109 := eq_true p109
          replace q109 := eq_true q109
          try go_wp2_with (first | ((with_reducible refine gate_dst (N := 8) rfl ?_); refine box_event ?hg (N := 8) ?hd (cs := #[.int .i64 0, .int .i64 0, .int .i64 0]) (t := 73) ?hr ?_; (case hd => rfl); (case hg => rfl); (case hr => first | (go_simp; done) | (go_simp; rfl)); intro gb110 hg w21 hbox hb; have n0_ := Aside0.mk (bkB BK101 hb); have n1_ := Aside0.mk (bkB BK102 hb); have n2_ := Aside0.mk (bkB BK104 hb); have n3_ := Aside0.mk (below_step (by repeat (first | (with_reducible first | exact HB.out | apply below_alloc | apply pw_below_drewN | apply below_drew1 | refine below_set ?_ GE101.out | refine below_set ?_ GE102.out | refine below_set ?_ GE104.out) | exact HB.out)) hb); have n4_ := Aside0.mk (hbox); have n5_ := Aside0.mk ((by rw [hg]; exact (below_size (by repeat (first | (with_reducible first | exact HB.out | apply below_alloc | apply pw_below_drewN | apply below_drew1 | refine below_set ?_ GE101.out | refine below_set ?_ GE102.out | refine below_set ?_ GE104.out) | exact HB.out))) : w.heap.size ≤ gb110)); have n6_ := Aside0.mk ((by rw [hg]; exact (below_size (by repeat (first | (with_reducible first | exact HB.out | apply below_alloc | apply pw_below_drewN | apply below_drew1 | refine below_set ?_ GE101.out | refine below_set ?_ GE102.out | refine below_set ?_ GE104.out) | exact HB.out))) : w.heap.size ≤ gb110)); have n7_ := Aside0.mk ((bkL BK101 hg : gb101 ≠ gb110)); have n8_ := Aside0.mk ((bkG BK101 hg : gb110 ≠ gb101)); have n9_ := Aside0.mk ((bkL BK102 hg : gb102 ≠ gb110)); have n10_ := Aside0.mk ((bkG BK102 hg : gb110 ≠ gb102)); have n11_ := Aside0.mk ((bkL BK104 hg : gb104 ≠ gb110)); have n12_ := Aside0.mk ((bkG BK104 hg : gb110 ≠ gb104)); clear BK101; clear BK102; clear BK104; clear HB; have BK101 := n0_; have BK102 := n1_; have BK104 := n2_; have HB := n3_; have BK110 := n4_; have GW110 := n5_; have GE110 := n6_; have NB101_110 := n7_; have NB110_101 := n8_; have NB102_110 := n9_; have NB110_102 := n10_; have NB104_110 := n11_; have NB110_104 := n12_; clear n0_ n1_ n2_ n3_ n4_ n5_ n6_ n7_ n8_ n9_ n10_ n11_ n12_; clear hb hbox hg; have hnb22 := NB110_101.out; have hnc22 := NB101_110.out; have hnb23 := NB110_102.out; have hnc23 := NB102_110.out; have hnb24 := NB110_104.out; have hnc24 := NB104_110.out; have hcz25_0 : w21.cell? ⟨gb110, 0, none⟩ = some (.int .i64 0) := (blk_cell BK110.out 0).trans rfl; have hcz25_1 : w21.cell? ⟨gb110, 1, none⟩ = some (.int .i64 0) := (blk_cell BK110.out 1).trans rfl; have hcz25_2 : w21.cell? ⟨gb110, 2, none⟩ = some (.int .i64 0) := (blk_cell BK110.out 2).trans rfl; have hfz25_0 := blk_frozen BK110.out 0; have hfz25_1 := blk_frozen BK110.out 1; have hfz25_2 := blk_frozen BK110.out 2; have hnb26 := NB104_101.out; have hnc26 := NB101_104.out; have hnb27 := NB104_102.out; have hnc27 := NB102_104.out; have hcz28_0 : w21.cell? ⟨gb104, 0, none⟩ = some (.int .i64 ((rd_T73 l0 x14_1).f0)) := (blk_cell BK104.out 0).trans rfl; have hcz28_1 : w21.cell? ⟨gb104, 1, none⟩ = some (.int .i64 ((rd_T73 l0 x14_1).f1)) := (blk_cell BK104.out 1).trans rfl; have hcz28_2 : w21.cell? ⟨gb104, 2, none⟩ = some (.int .i64 ((rd_T73 l0 x14_1).f2)) := (blk_cell BK104.out 2).trans rfl; have hfz28_0 := blk_frozen BK104.out 0; have hfz28_1 := blk_frozen BK104.out 1; have hfz28_2 := blk_frozen BK104.out 2))
          have n0_ : Aside0 ((((w21.setCell ⟨gb110, 0, none⟩ (.int .i64 ((rd_T73 y105 x23_2).f0))).setCell ⟨gb110, 1, none⟩ (.int .i64 ((rd_T73 y105 x23_2).f1))).setCell ⟨gb110, 2, none⟩ (.int .i64 ((rd_T73 y105 x23_2).f2))).heap[gb101]? = some (.cells #[.int .i64 x102000_2, .int .i64 x102001_2] 24 (0, 0))) := ⟨by (with_reducible repeat (first | refine blk_drewN ?_ _ | refine blk_drew ?_ | refine blk_alloc ?_ _)); refine blk_far ?_ NB101_110.out _; (with_reducible repeat (first | refine blk_drewN ?_ _ | refine blk_drew ?_ | refine blk_alloc ?_ _)); refine blk_far ?_ NB101_110.out _; (with_reducible repeat (first | refine blk_drewN ?_ _ | refine blk_drew ?_ | refine blk_alloc ?_ _)); refine blk_far ?_ NB101_110.out _; (with_reducible repeat (first | refine blk_drewN ?_ _ | refine blk_drew ?_ | refine blk_alloc ?_ _)); exact BK101.out⟩
          have n1_ : Aside0 ((((w21.setCell ⟨gb110, 0, none⟩ (.int .i64 ((rd_T73 y105 x23_2).f0))).setCell ⟨gb110, 1, none⟩ (.int .i64 ((rd_T73 y105 x23_2).f1))).setCell ⟨gb110, 2, none⟩ (.int .i64 ((rd_T73 y105 x23_2).f2))).heap[gb102]? = some (.cells #[.int .i64 x103000_2, .int .i64 x103001_2] 24 (0, 0))) := ⟨by (with_reducible repeat (first | refine blk_drewN ?_ _ | refine blk_drew ?_ | refine blk_alloc ?_ _)); refine blk_far ?_ NB102_110.out _; (with_reducible repeat (first | refine blk_drewN ?_ _ | refine blk_drew ?_ | refine blk_alloc ?_ _)); refine blk_far ?_ NB102_110.out _; (with_reducible repeat (first | refine blk_drewN ?_ _ | refine blk_drew ?_ | refine blk_alloc ?_ _)); refine blk_far ?_ NB102_110.out _; (with_reducible repeat (first | refine blk_drewN ?_ _ | refine blk_drew ?_ | refine blk_alloc ?_ _)); exact BK102.out⟩
          have n2_ : Aside0 ((((w21.setCell ⟨gb110, 0, none⟩ (.int .i64 ((rd_T73 y105 x23_2).f0))).setCell ⟨gb110, 1, none⟩ (.int .i64 ((rd_T73 y105 x23_2).f1))).setCell ⟨gb110, 2, none⟩ (.int .i64 ((rd_T73 y105 x23_2).f2))).heap[gb104]? = some (.cells #[.int .i64 ((rd_T73 l0 x14_1).f0), .int .i64 ((rd_T73 l0 x14_1).f1), .int .i64 ((rd_T73 l0 x14_1).f2)] 73 (0, 0))) := ⟨by (with_reducible repeat (first | refine blk_drewN ?_ _ | refine blk_drew ?_ | refine blk_alloc ?_ _)); refine blk_far ?_ NB104_110.out _; (with_reducible repeat (first | refine blk_drewN ?_ _ | refine blk_drew ?_ | refine blk_alloc ?_ _)); refine blk_far ?_ NB104_110.out _; (with_reducible repeat (first | refine blk_drewN ?_ _ | refine blk_drew ?_ | refine blk_alloc ?_ _)); refine blk_far ?_ NB104_110.out _; (with_reducible repeat (first | refine blk_drewN ?_ _ | refine blk_drew ?_ | refine blk_alloc ?_ _)); exact BK104.out⟩
          have n3_ : Aside0 ((((w21.setCell ⟨gb110, 0, none⟩ (.int .i64 ((rd_T73 y105 x23_2).f0))).setCell ⟨gb110, 1, none⟩ (.int .i64 ((rd_T73 y105 x23_2).f1))).setCell ⟨gb110, 2, none⟩ (.int .i64 ((rd_T73 y105 x23_2).f2))).heap[gb110]? = some (.cells #[.int .i64 ((rd_T73 y105 x23_2).f0), .int .i64 ((rd_T73 y105 x23_2).f1), .int .i64 ((rd_T73 y105 x23_2).f2)] 73 (0, 0))) := ⟨by (with_reducible repeat (first | refine blk_drewN ?_ _ | refine blk_drew ?_ | refine blk_alloc ?_ _)); refine blk_put (cs := #[.int .i64 ((rd_T73 y105 x23_2).f0), .int .i64 ((rd_T73 y105 x23_2).f1), .int .i64 0]) ?_ 2 _ rfl; (with_reducible repeat (first | refine blk_drewN ?_ _ | refine blk_drew ?_ | refine blk_alloc ?_ _)); refine blk_put (cs := #[.int .i64 ((rd_T73 y105 x23_2).f0), .int .i64 0, .int .i64 0]) ?_ 1 _ rfl; (with_reducible repeat (first | refine blk_drewN ?_ _ | refine blk_drew ?_ | refine blk_alloc ?_ _)); refine blk_put (cs := #[.int .i64 0, .int .i64 0, .int .i64 0]) ?_ 0 _ rfl; (with_reducible repeat (first | refine blk_drewN ?_ _ | refine blk_drew ?_ | refine blk_alloc ?_ _)); exact BK110.out⟩
          have n4_ : Aside0 (Below w.heap.size w (((w21.setCell ⟨gb110, 0, none⟩ (.int .i64 ((rd_T73 y105 x23_2).f0))).setCell ⟨gb110, 1, none⟩ (.int .i64 ((rd_T73 y105 x23_2).f1))).setCell ⟨gb110, 2, none⟩ (.int .i64 ((rd_T73 y105 x23_2).f2)))) := ⟨by repeat (first | (with_reducible first | exact HB.out | apply below_alloc | apply pw_below_drewN | apply below_drew1 | refine below_set ?_ GE101.out | refine below_set ?_ GE102.out | refine below_set ?_ GE104.out | refine below_set ?_ GE110.out) | exact HB.out)⟩
          (try clear BK101)
          (try clear BK102)
          (try clear BK104)
          (try clear BK110)
          (try clear HB)
          generalize (((w21.setCell ⟨gb110, 0, none⟩ (.int .i64 ((rd_T73 y105 x23_2).f0))).setCell ⟨gb110, 1, none⟩ (.int .i64 ((rd_T73 y105 x23_2).f1))).setCell ⟨gb110, 2, none⟩ (.int .i64 ((rd_T73 y105 x23_2).f2))) = w29 at n0_ n1_ n2_ n3_ n4_ ⊢
          have BK101 := n0_
          have BK102 := n1_
          have BK104 := n2_
          have BK110 := n3_
          have HB := n4_
          clear n0_ n1_ n2_ n3_ n4_
          have n0_ := Aside0.mk (blk_drew BK101.out)
          have n1_ := Aside0.mk (blk_drew BK102.out)
          have n2_ := Aside0.mk (blk_drew BK104.out)
          have n3_ := Aside0.mk (blk_drew BK110.out)
          have n4_ := Aside0.mk (below_drew1 HB.out)
          clear BK101
          clear BK102
          clear BK104
          clear BK110
          clear HB
          have BK101 := n0_
          have BK102 := n1_
          have BK104 := n2_
          have BK110 := n3_
          have HB := n4_
          clear n0_ n1_ n2_ n3_ n4_
          refine start_ (n := 18) (S := fun w' => True) (ds := []) #[false, false, false, false, false, false, false, false, false, false, false, false, false, false, false, false, false, false] (by kernel_rfl) rfl rfl trivial (fun hHeld => ?_); refine with_tabW arm_slopes.tab8 arm_slopes.bits8 (fun HT_ HW_ => ?_)
          generalize w29.drew = w30 at BK101 BK102 BK104 BK110 HB hHeld ⊢
          refine pure_ (i := 0) (N := some 32) (v := ?_) (a' := ?_) #[true, false, false, false, false, false, false, false, false, false, false, false, false, false, false, false, false, false] rfl rfl (any_of HT_.out (by kernel_rfl)) (fun _ _ _ h => h) (Or.inl ⟨by rfl, ?_⟩) ?_ ?_
          rotate_left
          · intro w'
            go_simp
            with_reducible rfl
          rotate_left
          · simp only [Act.put, List.setIfInBounds_toArray, List.set_cons_zero, List.set_cons_succ, i64_w, i32_w]
            rfl
          refine pure_ (i := 2) (N := some 34) (v := ?_) (a' := ?_) #[true, false, true, false, false, false, false, false, false, false, false, false, false, false, false, false, false, false] rfl rfl (any_of HT_.out (by kernel_rfl)) (fun _ _ _ h => h) (Or.inl ⟨by rfl, ?_⟩) ?_ ?_
          rotate_left
          · intro w'
            go_simp
            with_reducible rfl
          rotate_left
          · simp only [Act.put, List.setIfInBounds_toArray, List.set_cons_zero, List.set_cons_succ, i64_w, i32_w]
            rfl
          refine pure_ (i := 5) (N := some 37) (v := ?_) (a' := ?_) #[true, false, true, false, false, true, false, false, false, false, false, false, false, false, false, false, false, false] rfl rfl (any_of HT_.out (by kernel_rfl)) (fun _ _ _ h => h) (Or.inl ⟨by rfl, ?_⟩) ?_ ?_
          rotate_left
          · intro w'
            go_simp
            with_reducible rfl
          rotate_left
          · simp only [Act.put, List.setIfInBounds_toArray, List.set_cons_zero, List.set_cons_succ, i64_w, i32_w]
            rfl
          refine pure_ (i := 7) (N := some 39) (v := ?_) (a' := ?_) #[true, false, true, false, false, true, false, true, false, false, false, false, false, false, false, false, false, false] rfl rfl (any_of HT_.out (by kernel_rfl)) (fun _ _ _ h => h) (Or.inl ⟨by rfl, ?_⟩) ?_ ?_
          rotate_left
          · intro w'
            go_simp
            with_reducible rfl
          rotate_left
          · simp only [Act.put, List.setIfInBounds_toArray, List.set_cons_zero, List.set_cons_succ, i64_w, i32_w]
            rfl
          refine pure_ (i := 9) (N := some 41) (v := ?_) (a' := ?_) #[true, false, true, false, false, true, false, true, false, true, false, false, false, false, false, false, false, false] rfl rfl (any_of HT_.out (by kernel_rfl)) (fun _ _ _ h => h) (Or.inl ⟨by rfl, ?_⟩) ?_ ?_
          rotate_left
          · intro w'
            go_simp
            with_reducible rfl
          rotate_left
          · simp only [Act.put, List.setIfInBounds_toArray, List.set_cons_zero, List.set_cons_succ, i64_w, i32_w]
            rfl
          refine pure_ (i := 12) (N := some 44) (v := ?_) (a' := ?_) #[true, false, true, false, false, true, false, true, false, true, false, false, true, false, false, false, false, false] rfl rfl (any_of HT_.out (by kernel_rfl)) (fun _ _ _ h => h) (Or.inl ⟨by rfl, ?_⟩) ?_ ?_
          rotate_left
          · intro w'
            go_simp
            with_reducible rfl
          rotate_left
          · simp only [Act.put, List.setIfInBounds_toArray, List.set_cons_zero, List.set_cons_succ, i64_w, i32_w]
            rfl
          refine inv_at [1, 3, 4, 6, 8, 10, 11, 13, 14, 15, 16, 17] (fun a0_ b a w' => ∃ (gb115 : Nat) (gb116 : Nat) (m14_ : Value) (m15_ : Value), a = putSel a0_ b [(1, 33, .int .i64 ((rd_T73 l0 x14_1).f1)), (3, 35, .int .i64 ((rd_T73 y105 x23_2).f2)), (4, 36, .int .i64 (wrap64 (((rd_T73 l0 x14_1).f1) - ((rd_T73 y105 x23_2).f2)))), (6, 38, .agg #[.int .i64 t111, .int .i64 t112]), (8, 40, .int .i64 ((rd_T73 l0 x14_1).f2)), (10, 42, .int .i64 ((rd_T73 y105 x23_2).f1)), (11, 43, .int .i64 (wrap64 (((rd_T73 l0 x14_1).f2) - ((rd_T73 y105 x23_2).f1)))), (13, 45, .agg #[.int .i64 t113, .int .i64 t114]), (14, 10, m14_), (15, 11, m15_)] ∧ (w'.heap[gb101]? = some (.cells #[.int .i64 x102000_2, .int .i64 x102001_2] 24 (0, 0))) ∧ (w'.heap[gb102]? = some (.cells #[.int .i64 x103000_2, .int .i64 x103001_2] 24 (0, 0))) ∧ (w'.heap[gb104]? = some (.cells #[.int .i64 ((rd_T73 l0 x14_1).f0), .int .i64 ((rd_T73 l0 x14_1).f1), .int .i64 ((rd_T73 l0 x14_1).f2)] 73 (0, 0))) ∧ (w'.heap[gb110]? = some (.cells #[.int .i64 ((rd_T73 y105 x23_2).f0), .int .i64 ((rd_T73 y105 x23_2).f1), .int .i64 ((rd_T73 y105 x23_2).f2)] 73 (0, 0))) ∧ (Below w.heap.size w w') ∧ (b 14 = true → b 15 = true → gb116 ≠ gb115) ∧ (b 14 = true → b 15 = true → gb115 ≠ gb116) ∧ (b 14 = true → b 16 = false → w'.heap[gb115]? = some (.cells #[.int .i64 0, .int .i64 0] 24 (0, 0))) ∧ (b 14 = true → w.heap.size ≤ gb115) ∧ (b 14 = true → w.heap.size ≤ gb115) ∧ (b 14 = true → gb101 ≠ gb115) ∧ (b 14 = true → gb115 ≠ gb101) ∧ (b 14 = true → gb102 ≠ gb115) ∧ (b 14 = true → gb115 ≠ gb102) ∧ (b 14 = true → gb104 ≠ gb115) ∧ (b 14 = true → gb115 ≠ gb104) ∧ (b 14 = true → gb110 ≠ gb115) ∧ (b 14 = true → gb115 ≠ gb110) ∧ (b 15 = true → b 17 = false → w'.heap[gb116]? = some (.cells #[.int .i64 0, .int .i64 0] 24 (0, 0))) ∧ (b 15 = true → w.heap.size ≤ gb116) ∧ (b 15 = true → w.heap.size ≤ gb116) ∧ (b 15 = true → gb101 ≠ gb116) ∧ (b 15 = true → gb116 ≠ gb101) ∧ (b 15 = true → gb102 ≠ gb116) ∧ (b 15 = true → gb116 ≠ gb102) ∧ (b 15 = true → gb104 ≠ gb116) ∧ (b 15 = true → gb116 ≠ gb104) ∧ (b 15 = true → gb110 ≠ gb116) ∧ (b 15 = true → gb116 ≠ gb110) ∧ (b 16 = true → w'.heap[gb115]? = some (.cells #[.int .i64 t111, .int .i64 t112] 24 (0, 0))) ∧ (b 17 = true → w'.heap[gb116]? = some (.cells #[.int .i64 t113, .int .i64 t114] 24 (0, 0))) ∧ (b 14 = true → (m14_ : Value) = .pointer (some ⟨gb115, 0, none⟩)) ∧ (b 15 = true → (m15_ : Value) = .pointer (some ⟨gb116, 0, none⟩))) HT_.out HW_.out (by kernel_rfl) (by kernel_rfl) ?_ ?_ ?_
          · exact ⟨0, 0, .bool false, .bool false, by simp only [putSel, Bool.false_eq_true, if_false], BK101.out, BK102.out, BK104.out, BK110.out, HB.out, fun h_ => absurd h_ (by decide), fun h_ => absurd h_ (by decide), fun h_ => absurd h_ (by decide), fun h_ => absurd h_ (by decide), fun h_ => absurd h_ (by decide), fun h_ => absurd h_ (by decide), fun h_ => absurd h_ (by decide), fun h_ => absurd h_ (by decide), fun h_ => absurd h_ (by decide), fun h_ => absurd h_ (by decide), fun h_ => absurd h_ (by decide), fun h_ => absurd h_ (by decide), fun h_ => absurd h_ (by decide), fun h_ => absurd h_ (by decide), fun h_ => absurd h_ (by decide), fun h_ => absurd h_ (by decide), fun h_ => absurd h_ (by decide), fun h_ => absurd h_ (by decide), fun h_ => absurd h_ (by decide), fun h_ => absurd h_ (by decide), fun h_ => absurd h_ (by decide), fun h_ => absurd h_ (by decide), fun h_ => absurd h_ (by decide), fun h_ => absurd h_ (by decide), fun h_ => absurd h_ (by decide), fun h_ => absurd h_ (by decide), fun h_ => absurd h_ (by decide), fun h_ => absurd h_ (by decide)⟩
          · skip
            clear BK101 BK102 BK104 BK110 HB
            refine steps_cons ?_ ?_
            · rintro b a w' ⟨gb115, gb116, m14_, m15_, ha, Q_BK101, Q_BK102, Q_BK104, Q_BK110, Q_HB, Q_NB116_115, Q_NB115_116, Q_BK115, Q_GW115, Q_GE115, Q_NB101_115, Q_NB115_101, Q_NB102_115, Q_NB115_102, Q_NB104_115, Q_NB115_104, Q_NB110_115, Q_NB115_110, Q_BK116, Q_GW116, Q_GE116, Q_NB101_116, Q_NB116_101, Q_NB102_116, Q_NB116_102, Q_NB104_116, Q_NB116_104, Q_NB110_116, Q_NB116_110, Q_BK115_e16, Q_BK116_e17, Q_X14_, Q_X15_⟩ hb_ hon hoff
              refine ⟨_, rfl, fun K hK => ?_⟩
              have e32 : a.tmps[32]? = some (.pointer (some ⟨gb104, 1, none⟩)) := by rw [ha]; exact (putSel_off rfl).trans rfl
              replace ha := Aside0.mk ha
              have BK101 := Aside0.mk Q_BK101
              have BK102 := Aside0.mk Q_BK102
              have BK104 := Aside0.mk Q_BK104
              have BK110 := Aside0.mk Q_BK110
              have HB := Aside0.mk Q_HB
              have hc0_ : w'.cell? ⟨gb104, 0, none⟩ = some (.int .i64 ((rd_T73 l0 x14_1).f0)) := (blk_cell BK104.out 0).trans rfl
              have hc1_ : w'.cell? ⟨gb104, 1, none⟩ = some (.int .i64 ((rd_T73 l0 x14_1).f1)) := (blk_cell BK104.out 1).trans rfl
              have hc2_ : w'.cell? ⟨gb104, 2, none⟩ = some (.int .i64 ((rd_T73 l0 x14_1).f2)) := (blk_cell BK104.out 2).trans rfl
              refine value_ (w1 := w') (v := .int .i64 ((rd_T73 l0 x14_1).f1)) (by rfl) rfl ?_ ?_
              · go_simp
                (try simp only [i64_w])
                try rfl
              refine hK.out _ _ ⟨gb115, gb116, m14_, m15_, (by rw [ha.out]; exact putSel_upk 0 hb_ rfl rfl rfl), Q_BK101, Q_BK102, Q_BK104, Q_BK110, Q_HB, Q_NB116_115, Q_NB115_116, Q_BK115, Q_GW115, Q_GE115, Q_NB101_115, Q_NB115_101, Q_NB102_115, Q_NB115_102, Q_NB104_115, Q_NB115_104, Q_NB110_115, Q_NB115_110, Q_BK116, Q_GW116, Q_GE116, Q_NB101_116, Q_NB116_101, Q_NB102_116, Q_NB116_102, Q_NB104_116, Q_NB116_104, Q_NB110_116, Q_NB116_110, fun h0_ => absurd ((hoff 16 (by kernel_rfl)).symm.trans h0_) (by decide), fun h0_ => absurd ((hoff 17 (by kernel_rfl)).symm.trans h0_) (by decide), Q_X14_, Q_X15_⟩
            refine steps_cons ?_ ?_
            · rintro b a w' ⟨gb115, gb116, m14_, m15_, ha, Q_BK101, Q_BK102, Q_BK104, Q_BK110, Q_HB, Q_NB116_115, Q_NB115_116, Q_BK115, Q_GW115, Q_GE115, Q_NB101_115, Q_NB115_101, Q_NB102_115, Q_NB115_102, Q_NB104_115, Q_NB115_104, Q_NB110_115, Q_NB115_110, Q_BK116, Q_GW116, Q_GE116, Q_NB101_116, Q_NB116_101, Q_NB102_116, Q_NB116_102, Q_NB104_116, Q_NB116_104, Q_NB110_116, Q_NB116_110, Q_BK115_e16, Q_BK116_e17, Q_X14_, Q_X15_⟩ hb_ hon hoff
              refine ⟨_, rfl, fun K hK => ?_⟩
              have e34 : a.tmps[34]? = some (.pointer (some ⟨gb110, 2, none⟩)) := by rw [ha]; exact (putSel_off rfl).trans rfl
              replace ha := Aside0.mk ha
              have BK101 := Aside0.mk Q_BK101
              have BK102 := Aside0.mk Q_BK102
              have BK104 := Aside0.mk Q_BK104
              have BK110 := Aside0.mk Q_BK110
              have HB := Aside0.mk Q_HB
              have hc0_ : w'.cell? ⟨gb110, 0, none⟩ = some (.int .i64 ((rd_T73 y105 x23_2).f0)) := (blk_cell BK110.out 0).trans rfl
              have hc1_ : w'.cell? ⟨gb110, 1, none⟩ = some (.int .i64 ((rd_T73 y105 x23_2).f1)) := (blk_cell BK110.out 1).trans rfl
              have hc2_ : w'.cell? ⟨gb110, 2, none⟩ = some (.int .i64 ((rd_T73 y105 x23_2).f2)) := (blk_cell BK110.out 2).trans rfl
              refine value_ (w1 := w') (v := .int .i64 ((rd_T73 y105 x23_2).f2)) (by rfl) rfl ?_ ?_
              · go_simp
                (try simp only [i64_w])
                try rfl
              refine hK.out _ _ ⟨gb115, gb116, m14_, m15_, (by rw [ha.out]; exact putSel_upk 1 hb_ rfl rfl rfl), Q_BK101, Q_BK102, Q_BK104, Q_BK110, Q_HB, Q_NB116_115, Q_NB115_116, Q_BK115, Q_GW115, Q_GE115, Q_NB101_115, Q_NB115_101, Q_NB102_115, Q_NB115_102, Q_NB104_115, Q_NB115_104, Q_NB110_115, Q_NB115_110, Q_BK116, Q_GW116, Q_GE116, Q_NB101_116, Q_NB116_101, Q_NB102_116, Q_NB116_102, Q_NB104_116, Q_NB116_104, Q_NB110_116, Q_NB116_110, fun h0_ => absurd ((hoff 16 (by kernel_rfl)).symm.trans h0_) (by decide), fun h0_ => absurd ((hoff 17 (by kernel_rfl)).symm.trans h0_) (by decide), Q_X14_, Q_X15_⟩
            refine steps_cons ?_ ?_
            · rintro b a w' ⟨gb115, gb116, m14_, m15_, ha, Q_BK101, Q_BK102, Q_BK104, Q_BK110, Q_HB, Q_NB116_115, Q_NB115_116, Q_BK115, Q_GW115, Q_GE115, Q_NB101_115, Q_NB115_101, Q_NB102_115, Q_NB115_102, Q_NB104_115, Q_NB115_104, Q_NB110_115, Q_NB115_110, Q_BK116, Q_GW116, Q_GE116, Q_NB101_116, Q_NB116_101, Q_NB102_116, Q_NB116_102, Q_NB104_116, Q_NB116_104, Q_NB110_116, Q_NB116_110, Q_BK115_e16, Q_BK116_e17, Q_X14_, Q_X15_⟩ hb_ hon hoff
              refine ⟨_, rfl, fun K hK => ?_⟩
              have e33 : a.tmps[33]? = some (.int .i64 ((rd_T73 l0 x14_1).f1)) := by rw [ha]; exact putSel_on (e := (1, 33, .int .i64 ((rd_T73 l0 x14_1).f1))) 0 rfl rfl (hon 1 (by kernel_rfl)) rfl
              have e35 : a.tmps[35]? = some (.int .i64 ((rd_T73 y105 x23_2).f2)) := by rw [ha]; exact putSel_on (e := (3, 35, .int .i64 ((rd_T73 y105 x23_2).f2))) 1 rfl rfl (hon 3 (by kernel_rfl)) rfl
              replace ha := Aside0.mk ha
              have BK101 := Aside0.mk Q_BK101
              have BK102 := Aside0.mk Q_BK102
              have BK104 := Aside0.mk Q_BK104
              have BK110 := Aside0.mk Q_BK110
              have HB := Aside0.mk Q_HB
              refine value_ (w1 := w') (v := .int .i64 (wrap64 (((rd_T73 l0 x14_1).f1) - ((rd_T73 y105 x23_2).f2)))) (by rfl) rfl ?_ ?_
              · go_simp
                (try simp only [i64_w])
                try rfl
              refine hK.out _ _ ⟨gb115, gb116, m14_, m15_, (by rw [ha.out]; exact putSel_upk 2 hb_ rfl rfl rfl), Q_BK101, Q_BK102, Q_BK104, Q_BK110, Q_HB, Q_NB116_115, Q_NB115_116, Q_BK115, Q_GW115, Q_GE115, Q_NB101_115, Q_NB115_101, Q_NB102_115, Q_NB115_102, Q_NB104_115, Q_NB115_104, Q_NB110_115, Q_NB115_110, Q_BK116, Q_GW116, Q_GE116, Q_NB101_116, Q_NB116_101, Q_NB102_116, Q_NB116_102, Q_NB104_116, Q_NB116_104, Q_NB110_116, Q_NB116_110, fun h0_ => absurd ((hoff 16 (by kernel_rfl)).symm.trans h0_) (by decide), fun h0_ => absurd ((hoff 17 (by kernel_rfl)).symm.trans h0_) (by decide), Q_X14_, Q_X15_⟩
            refine steps_cons ?_ ?_
            · rintro b a w' ⟨gb115, gb116, m14_, m15_, ha, Q_BK101, Q_BK102, Q_BK104, Q_BK110, Q_HB, Q_NB116_115, Q_NB115_116, Q_BK115, Q_GW115, Q_GE115, Q_NB101_115, Q_NB115_101, Q_NB102_115, Q_NB115_102, Q_NB104_115, Q_NB115_104, Q_NB110_115, Q_NB115_110, Q_BK116, Q_GW116, Q_GE116, Q_NB101_116, Q_NB116_101, Q_NB102_116, Q_NB116_102, Q_NB104_116, Q_NB116_104, Q_NB110_116, Q_NB116_110, Q_BK115_e16, Q_BK116_e17, Q_X14_, Q_X15_⟩ hb_ hon hoff
              refine ⟨_, rfl, fun K hK => ?_⟩
              have e36 : a.tmps[36]? = some (.int .i64 (wrap64 (((rd_T73 l0 x14_1).f1) - ((rd_T73 y105 x23_2).f2)))) := by rw [ha]; exact putSel_on (e := (4, 36, .int .i64 (wrap64 (((rd_T73 l0 x14_1).f1) - ((rd_T73 y105 x23_2).f2))))) 2 rfl rfl (hon 4 (by kernel_rfl)) rfl
              have e37 : a.tmps[37]? = some (.int .i64 (wrap64 (((rd_T73 l0 x14_1).f0) - ((rd_T73 y105 x23_2).f0)))) := by rw [ha]; exact (putSel_off rfl).trans rfl
              replace ha := Aside0.mk ha
              have BK101 := Aside0.mk Q_BK101
              have BK102 := Aside0.mk Q_BK102
              have BK104 := Aside0.mk Q_BK104
              have BK110 := Aside0.mk Q_BK110
              have HB := Aside0.mk Q_HB
              refine goes_ Try.func52 (by kernel_rfl) rfl #[.int .i64 (wrap64 (((rd_T73 l0 x14_1).f1) - ((rd_T73 y105 x23_2).f2))), .int .i64 (wrap64 (((rd_T73 l0 x14_1).f0) - ((rd_T73 y105 x23_2).f0)))] (by rfl) rfl rfl (by first | (simp only [List.map_toArray, List.map_cons, List.map_nil, Act.eval, Array.getD_eq_getD_getElem?, Option.getD_some, e36, e37]; done) | (simp only [List.map_toArray, List.map_cons, List.map_nil, Act.eval, Array.getD_eq_getD_getElem?, Option.getD_some, e36, e37]; rfl)) ?_
              with_reducible refine (arm_lowest.calls k2 (wrap64 (((rd_T73 l0 x14_1).f1) - ((rd_T73 y105 x23_2).f2))) (wrap64 (((rd_T73 l0 x14_1).f0) - ((rd_T73 y105 x23_2).f0))) t111 t112 _ A18.out).mono ?_
              rintro e w31 ⟨rfl, hb⟩
              refine ⟨_, rfl, ?_⟩
              have n0_ := Aside0.mk (bkB BK101 hb)
              have n1_ := Aside0.mk (bkB BK102 hb)
              have n2_ := Aside0.mk (bkB BK104 hb)
              have n3_ := Aside0.mk (bkB BK110 hb)
              have n4_ := Aside0.mk (below_step (by repeat (first | (with_reducible first | exact HB.out | apply below_alloc | apply pw_below_drewN | apply below_drew1 | refine below_set ?_ GE101.out | refine below_set ?_ GE102.out | refine below_set ?_ GE104.out | refine below_set ?_ GE110.out) | exact HB.out)) hb)
              have z_BK115 := fun (h0_ : b 14 = true) (h1_ : b 16 = false) => (show w31.heap[gb115]? = some (.cells #[.int .i64 0, .int .i64 0] 24 (0, 0)) from by first | exact (blk_below (g := gb115) (o := .cells #[.int .i64 0, .int .i64 0] 24 (0, 0)) (by (with_reducible repeat (first | refine blk_drewN ?_ _ | refine blk_drew ?_ | refine blk_alloc ?_ _)); exact (Q_BK115 h0_ h1_)) hb))
              have z_BK116 := fun (h0_ : b 15 = true) (h1_ : b 17 = false) => (show w31.heap[gb116]? = some (.cells #[.int .i64 0, .int .i64 0] 24 (0, 0)) from by first | exact (blk_below (g := gb116) (o := .cells #[.int .i64 0, .int .i64 0] 24 (0, 0)) (by (with_reducible repeat (first | refine blk_drewN ?_ _ | refine blk_drew ?_ | refine blk_alloc ?_ _)); exact (Q_BK116 h0_ h1_)) hb))
              clear BK101
              clear BK102
              clear BK104
              clear BK110
              clear HB
              have BK101 := n0_
              have BK102 := n1_
              have BK104 := n2_
              have BK110 := n3_
              have HB := n4_
              clear n0_ n1_ n2_ n3_ n4_
              (try clear hb)
              (try clear hb2)
              (try clear hk)
              (try clear hi)
              refine hK.out _ _ ⟨gb115, gb116, m14_, m15_, (by rw [ha.out]; exact putSel_upk 3 hb_ rfl rfl rfl), (bkU BK101), (bkU BK102), (bkU BK104), (bkU BK110), (by repeat (first | (with_reducible first | exact HB.out | apply below_alloc | apply pw_below_drewN | apply below_drew1 | refine below_set ?_ GE101.out | refine below_set ?_ GE102.out | refine below_set ?_ GE104.out | refine below_set ?_ GE110.out) | exact HB.out)), Q_NB116_115, Q_NB115_116, z_BK115, Q_GW115, Q_GE115, Q_NB101_115, Q_NB115_101, Q_NB102_115, Q_NB115_102, Q_NB104_115, Q_NB115_104, Q_NB110_115, Q_NB115_110, z_BK116, Q_GW116, Q_GE116, Q_NB101_116, Q_NB116_101, Q_NB102_116, Q_NB116_102, Q_NB104_116, Q_NB116_104, Q_NB110_116, Q_NB116_110, fun h0_ => absurd ((hoff 16 (by kernel_rfl)).symm.trans h0_) (by decide), fun h0_ => absurd ((hoff 17 (by kernel_rfl)).symm.trans h0_) (by decide), Q_X14_, Q_X15_⟩
            refine steps_cons ?_ ?_
            · rintro b a w' ⟨gb115, gb116, m14_, m15_, ha, Q_BK101, Q_BK102, Q_BK104, Q_BK110, Q_HB, Q_NB116_115, Q_NB115_116, Q_BK115, Q_GW115, Q_GE115, Q_NB101_115, Q_NB115_101, Q_NB102_115, Q_NB115_102, Q_NB104_115, Q_NB115_104, Q_NB110_115, Q_NB115_110, Q_BK116, Q_GW116, Q_GE116, Q_NB101_116, Q_NB116_101, Q_NB102_116, Q_NB116_102, Q_NB104_116, Q_NB116_104, Q_NB110_116, Q_NB116_110, Q_BK115_e16, Q_BK116_e17, Q_X14_, Q_X15_⟩ hb_ hon hoff
              refine ⟨_, rfl, fun K hK => ?_⟩
              have e39 : a.tmps[39]? = some (.pointer (some ⟨gb104, 2, none⟩)) := by rw [ha]; exact (putSel_off rfl).trans rfl
              replace ha := Aside0.mk ha
              have BK101 := Aside0.mk Q_BK101
              have BK102 := Aside0.mk Q_BK102
              have BK104 := Aside0.mk Q_BK104
              have BK110 := Aside0.mk Q_BK110
              have HB := Aside0.mk Q_HB
              have hc0_ : w'.cell? ⟨gb104, 0, none⟩ = some (.int .i64 ((rd_T73 l0 x14_1).f0)) := (blk_cell BK104.out 0).trans rfl
              have hc1_ : w'.cell? ⟨gb104, 1, none⟩ = some (.int .i64 ((rd_T73 l0 x14_1).f1)) := (blk_cell BK104.out 1).trans rfl
              have hc2_ : w'.cell? ⟨gb104, 2, none⟩ = some (.int .i64 ((rd_T73 l0 x14_1).f2)) := (blk_cell BK104.out 2).trans rfl
              refine value_ (w1 := w') (v := .int .i64 ((rd_T73 l0 x14_1).f2)) (by rfl) rfl ?_ ?_
              · go_simp
                (try simp only [i64_w])
                try rfl
              refine hK.out _ _ ⟨gb115, gb116, m14_, m15_, (by rw [ha.out]; exact putSel_upk 4 hb_ rfl rfl rfl), Q_BK101, Q_BK102, Q_BK104, Q_BK110, Q_HB, Q_NB116_115, Q_NB115_116, Q_BK115, Q_GW115, Q_GE115, Q_NB101_115, Q_NB115_101, Q_NB102_115, Q_NB115_102, Q_NB104_115, Q_NB115_104, Q_NB110_115, Q_NB115_110, Q_BK116, Q_GW116, Q_GE116, Q_NB101_116, Q_NB116_101, Q_NB102_116, Q_NB116_102, Q_NB104_116, Q_NB116_104, Q_NB110_116, Q_NB116_110, fun h0_ => absurd ((hoff 16 (by kernel_rfl)).symm.trans h0_) (by decide), fun h0_ => absurd ((hoff 17 (by kernel_rfl)).symm.trans h0_) (by decide), Q_X14_, Q_X15_⟩
            refine steps_cons ?_ ?_
            · rintro b a w' ⟨gb115, gb116, m14_, m15_, ha, Q_BK101, Q_BK102, Q_BK104, Q_BK110, Q_HB, Q_NB116_115, Q_NB115_116, Q_BK115, Q_GW115, Q_GE115, Q_NB101_115, Q_NB115_101, Q_NB102_115, Q_NB115_102, Q_NB104_115, Q_NB115_104, Q_NB110_115, Q_NB115_110, Q_BK116, Q_GW116, Q_GE116, Q_NB101_116, Q_NB116_101, Q_NB102_116, Q_NB116_102, Q_NB104_116, Q_NB116_104, Q_NB110_116, Q_NB116_110, Q_BK115_e16, Q_BK116_e17, Q_X14_, Q_X15_⟩ hb_ hon hoff
              refine ⟨_, rfl, fun K hK => ?_⟩
              have e41 : a.tmps[41]? = some (.pointer (some ⟨gb110, 1, none⟩)) := by rw [ha]; exact (putSel_off rfl).trans rfl
              replace ha := Aside0.mk ha
              have BK101 := Aside0.mk Q_BK101
              have BK102 := Aside0.mk Q_BK102
              have BK104 := Aside0.mk Q_BK104
              have BK110 := Aside0.mk Q_BK110
              have HB := Aside0.mk Q_HB
              have hc0_ : w'.cell? ⟨gb110, 0, none⟩ = some (.int .i64 ((rd_T73 y105 x23_2).f0)) := (blk_cell BK110.out 0).trans rfl
              have hc1_ : w'.cell? ⟨gb110, 1, none⟩ = some (.int .i64 ((rd_T73 y105 x23_2).f1)) := (blk_cell BK110.out 1).trans rfl
              have hc2_ : w'.cell? ⟨gb110, 2, none⟩ = some (.int .i64 ((rd_T73 y105 x23_2).f2)) := (blk_cell BK110.out 2).trans rfl
              refine value_ (w1 := w') (v := .int .i64 ((rd_T73 y105 x23_2).f1)) (by rfl) rfl ?_ ?_
              · go_simp
                (try simp only [i64_w])
                try rfl
              refine hK.out _ _ ⟨gb115, gb116, m14_, m15_, (by rw [ha.out]; exact putSel_upk 5 hb_ rfl rfl rfl), Q_BK101, Q_BK102, Q_BK104, Q_BK110, Q_HB, Q_NB116_115, Q_NB115_116, Q_BK115, Q_GW115, Q_GE115, Q_NB101_115, Q_NB115_101, Q_NB102_115, Q_NB115_102, Q_NB104_115, Q_NB115_104, Q_NB110_115, Q_NB115_110, Q_BK116, Q_GW116, Q_GE116, Q_NB101_116, Q_NB116_101, Q_NB102_116, Q_NB116_102, Q_NB104_116, Q_NB116_104, Q_NB110_116, Q_NB116_110, fun h0_ => absurd ((hoff 16 (by kernel_rfl)).symm.trans h0_) (by decide), fun h0_ => absurd ((hoff 17 (by kernel_rfl)).symm.trans h0_) (by decide), Q_X14_, Q_X15_⟩
            refine steps_cons ?_ ?_
            · rintro b a w' ⟨gb115, gb116, m14_, m15_, ha, Q_BK101, Q_BK102, Q_BK104, Q_BK110, Q_HB, Q_NB116_115, Q_NB115_116, Q_BK115, Q_GW115, Q_GE115, Q_NB101_115, Q_NB115_101, Q_NB102_115, Q_NB115_102, Q_NB104_115, Q_NB115_104, Q_NB110_115, Q_NB115_110, Q_BK116, Q_GW116, Q_GE116, Q_NB101_116, Q_NB116_101, Q_NB102_116, Q_NB116_102, Q_NB104_116, Q_NB116_104, Q_NB110_116, Q_NB116_110, Q_BK115_e16, Q_BK116_e17, Q_X14_, Q_X15_⟩ hb_ hon hoff
              refine ⟨_, rfl, fun K hK => ?_⟩
              have e40 : a.tmps[40]? = some (.int .i64 ((rd_T73 l0 x14_1).f2)) := by rw [ha]; exact putSel_on (e := (8, 40, .int .i64 ((rd_T73 l0 x14_1).f2))) 4 rfl rfl (hon 8 (by kernel_rfl)) rfl
              have e42 : a.tmps[42]? = some (.int .i64 ((rd_T73 y105 x23_2).f1)) := by rw [ha]; exact putSel_on (e := (10, 42, .int .i64 ((rd_T73 y105 x23_2).f1))) 5 rfl rfl (hon 10 (by kernel_rfl)) rfl
              replace ha := Aside0.mk ha
              have BK101 := Aside0.mk Q_BK101
              have BK102 := Aside0.mk Q_BK102
              have BK104 := Aside0.mk Q_BK104
              have BK110 := Aside0.mk Q_BK110
              have HB := Aside0.mk Q_HB
              refine value_ (w1 := w') (v := .int .i64 (wrap64 (((rd_T73 l0 x14_1).f2) - ((rd_T73 y105 x23_2).f1)))) (by rfl) rfl ?_ ?_
              · go_simp
                (try simp only [i64_w])
                try rfl
              refine hK.out _ _ ⟨gb115, gb116, m14_, m15_, (by rw [ha.out]; exact putSel_upk 6 hb_ rfl rfl rfl), Q_BK101, Q_BK102, Q_BK104, Q_BK110, Q_HB, Q_NB116_115, Q_NB115_116, Q_BK115, Q_GW115, Q_GE115, Q_NB101_115, Q_NB115_101, Q_NB102_115, Q_NB115_102, Q_NB104_115, Q_NB115_104, Q_NB110_115, Q_NB115_110, Q_BK116, Q_GW116, Q_GE116, Q_NB101_116, Q_NB116_101, Q_NB102_116, Q_NB116_102, Q_NB104_116, Q_NB116_104, Q_NB110_116, Q_NB116_110, fun h0_ => absurd ((hoff 16 (by kernel_rfl)).symm.trans h0_) (by decide), fun h0_ => absurd ((hoff 17 (by kernel_rfl)).symm.trans h0_) (by decide), Q_X14_, Q_X15_⟩
            refine steps_cons ?_ ?_
            · rintro b a w' ⟨gb115, gb116, m14_, m15_, ha, Q_BK101, Q_BK102, Q_BK104, Q_BK110, Q_HB, Q_NB116_115, Q_NB115_116, Q_BK115, Q_GW115, Q_GE115, Q_NB101_115, Q_NB115_101, Q_NB102_115, Q_NB115_102, Q_NB104_115, Q_NB115_104, Q_NB110_115, Q_NB115_110, Q_BK116, Q_GW116, Q_GE116, Q_NB101_116, Q_NB116_101, Q_NB102_116, Q_NB116_102, Q_NB104_116, Q_NB116_104, Q_NB110_116, Q_NB116_110, Q_BK115_e16, Q_BK116_e17, Q_X14_, Q_X15_⟩ hb_ hon hoff
              refine ⟨_, rfl, fun K hK => ?_⟩
              have e43 : a.tmps[43]? = some (.int .i64 (wrap64 (((rd_T73 l0 x14_1).f2) - ((rd_T73 y105 x23_2).f1)))) := by rw [ha]; exact putSel_on (e := (11, 43, .int .i64 (wrap64 (((rd_T73 l0 x14_1).f2) - ((rd_T73 y105 x23_2).f1))))) 6 rfl rfl (hon 11 (by kernel_rfl)) rfl
              have e44 : a.tmps[44]? = some (.int .i64 (wrap64 (((rd_T73 l0 x14_1).f0) - ((rd_T73 y105 x23_2).f0)))) := by rw [ha]; exact (putSel_off rfl).trans rfl
              replace ha := Aside0.mk ha
              have BK101 := Aside0.mk Q_BK101
              have BK102 := Aside0.mk Q_BK102
              have BK104 := Aside0.mk Q_BK104
              have BK110 := Aside0.mk Q_BK110
              have HB := Aside0.mk Q_HB
              refine goes_ Try.func52 (by kernel_rfl) rfl #[.int .i64 (wrap64 (((rd_T73 l0 x14_1).f2) - ((rd_T73 y105 x23_2).f1))), .int .i64 (wrap64 (((rd_T73 l0 x14_1).f0) - ((rd_T73 y105 x23_2).f0)))] (by rfl) rfl rfl (by first | (simp only [List.map_toArray, List.map_cons, List.map_nil, Act.eval, Array.getD_eq_getD_getElem?, Option.getD_some, e43, e44]; done) | (simp only [List.map_toArray, List.map_cons, List.map_nil, Act.eval, Array.getD_eq_getD_getElem?, Option.getD_some, e43, e44]; rfl)) ?_
              with_reducible refine (arm_lowest.calls k2 (wrap64 (((rd_T73 l0 x14_1).f2) - ((rd_T73 y105 x23_2).f1))) (wrap64 (((rd_T73 l0 x14_1).f0) - ((rd_T73 y105 x23_2).f0))) t113 t114 _ A19.out).mono ?_
              rintro e w33 ⟨rfl, hb⟩
              refine ⟨_, rfl, ?_⟩
              have n0_ := Aside0.mk (bkB BK101 hb)
              have n1_ := Aside0.mk (bkB BK102 hb)
              have n2_ := Aside0.mk (bkB BK104 hb)
              have n3_ := Aside0.mk (bkB BK110 hb)
              have n4_ := Aside0.mk (below_step (by repeat (first | (with_reducible first | exact HB.out | apply below_alloc | apply pw_below_drewN | apply below_drew1 | refine below_set ?_ GE101.out | refine below_set ?_ GE102.out | refine below_set ?_ GE104.out | refine below_set ?_ GE110.out) | exact HB.out)) hb)
              have z_BK115 := fun (h0_ : b 14 = true) (h1_ : b 16 = false) => (show w33.heap[gb115]? = some (.cells #[.int .i64 0, .int .i64 0] 24 (0, 0)) from by first | exact (blk_below (g := gb115) (o := .cells #[.int .i64 0, .int .i64 0] 24 (0, 0)) (by (with_reducible repeat (first | refine blk_drewN ?_ _ | refine blk_drew ?_ | refine blk_alloc ?_ _)); exact (Q_BK115 h0_ h1_)) hb))
              have z_BK116 := fun (h0_ : b 15 = true) (h1_ : b 17 = false) => (show w33.heap[gb116]? = some (.cells #[.int .i64 0, .int .i64 0] 24 (0, 0)) from by first | exact (blk_below (g := gb116) (o := .cells #[.int .i64 0, .int .i64 0] 24 (0, 0)) (by (with_reducible repeat (first | refine blk_drewN ?_ _ | refine blk_drew ?_ | refine blk_alloc ?_ _)); exact (Q_BK116 h0_ h1_)) hb))
              clear BK101
              clear BK102
              clear BK104
              clear BK110
              clear HB
              have BK101 := n0_
              have BK102 := n1_
              have BK104 := n2_
              have BK110 := n3_
              have HB := n4_
              clear n0_ n1_ n2_ n3_ n4_
              (try clear hb)
              (try clear hb2)
              (try clear hk)
              (try clear hi)
              refine hK.out _ _ ⟨gb115, gb116, m14_, m15_, (by rw [ha.out]; exact putSel_upk 7 hb_ rfl rfl rfl), (bkU BK101), (bkU BK102), (bkU BK104), (bkU BK110), (by repeat (first | (with_reducible first | exact HB.out | apply below_alloc | apply pw_below_drewN | apply below_drew1 | refine below_set ?_ GE101.out | refine below_set ?_ GE102.out | refine below_set ?_ GE104.out | refine below_set ?_ GE110.out) | exact HB.out)), Q_NB116_115, Q_NB115_116, z_BK115, Q_GW115, Q_GE115, Q_NB101_115, Q_NB115_101, Q_NB102_115, Q_NB115_102, Q_NB104_115, Q_NB115_104, Q_NB110_115, Q_NB115_110, z_BK116, Q_GW116, Q_GE116, Q_NB101_116, Q_NB116_101, Q_NB102_116, Q_NB116_102, Q_NB104_116, Q_NB116_104, Q_NB110_116, Q_NB116_110, fun h0_ => absurd ((hoff 16 (by kernel_rfl)).symm.trans h0_) (by decide), fun h0_ => absurd ((hoff 17 (by kernel_rfl)).symm.trans h0_) (by decide), Q_X14_, Q_X15_⟩
            refine steps_cons ?_ ?_
            · rintro b a w' ⟨gb115, gb116, m14_, m15_, ha, Q_BK101, Q_BK102, Q_BK104, Q_BK110, Q_HB, Q_NB116_115, Q_NB115_116, Q_BK115, Q_GW115, Q_GE115, Q_NB101_115, Q_NB115_101, Q_NB102_115, Q_NB115_102, Q_NB104_115, Q_NB115_104, Q_NB110_115, Q_NB115_110, Q_BK116, Q_GW116, Q_GE116, Q_NB101_116, Q_NB116_101, Q_NB102_116, Q_NB116_102, Q_NB104_116, Q_NB116_104, Q_NB110_116, Q_NB116_110, Q_BK115_e16, Q_BK116_e17, Q_X14_, Q_X15_⟩ hb_ hon hoff
              refine ⟨_, rfl, fun K hK => ?_⟩
              replace ha := Aside0.mk ha
              have BK101 := Aside0.mk Q_BK101
              have BK102 := Aside0.mk Q_BK102
              have BK104 := Aside0.mk Q_BK104
              have BK110 := Aside0.mk Q_BK110
              have HB := Aside0.mk Q_HB
              refine box_step ?hg (N := 10) ?hd (cs := #[.int .i64 0, .int .i64 0]) (t := 24) ?hr ?_; (case hd => rfl); (case hg => rfl); (case hr => first | (go_simp; done) | (go_simp; rfl))
              intro gb115 hg w31 hbox hb
              have n0_ := Aside0.mk (bkB BK101 hb)
              have n1_ := Aside0.mk (bkB BK102 hb)
              have n2_ := Aside0.mk (bkB BK104 hb)
              have n3_ := Aside0.mk (bkB BK110 hb)
              have n4_ := Aside0.mk (below_step (by repeat (first | (with_reducible first | exact HB.out | apply below_alloc | apply pw_below_drewN | apply below_drew1 | refine below_set ?_ GE101.out | refine below_set ?_ GE102.out | refine below_set ?_ GE104.out | refine below_set ?_ GE110.out) | exact HB.out)) hb)
              have n5_ := Aside0.mk (hbox)
              have n6_ := Aside0.mk ((by rw [hg]; exact (below_size (by repeat (first | (with_reducible first | exact HB.out | apply below_alloc | apply pw_below_drewN | apply below_drew1 | refine below_set ?_ GE101.out | refine below_set ?_ GE102.out | refine below_set ?_ GE104.out | refine below_set ?_ GE110.out) | exact HB.out))) : w.heap.size ≤ gb115))
              have n7_ := Aside0.mk ((by rw [hg]; exact (below_size (by repeat (first | (with_reducible first | exact HB.out | apply below_alloc | apply pw_below_drewN | apply below_drew1 | refine below_set ?_ GE101.out | refine below_set ?_ GE102.out | refine below_set ?_ GE104.out | refine below_set ?_ GE110.out) | exact HB.out))) : w.heap.size ≤ gb115))
              have n8_ := Aside0.mk ((bkL BK101 hg : gb101 ≠ gb115))
              have n9_ := Aside0.mk ((bkG BK101 hg : gb115 ≠ gb101))
              have n10_ := Aside0.mk ((bkL BK102 hg : gb102 ≠ gb115))
              have n11_ := Aside0.mk ((bkG BK102 hg : gb115 ≠ gb102))
              have n12_ := Aside0.mk ((bkL BK104 hg : gb104 ≠ gb115))
              have n13_ := Aside0.mk ((bkG BK104 hg : gb115 ≠ gb104))
              have n14_ := Aside0.mk ((bkL BK110 hg : gb110 ≠ gb115))
              have n15_ := Aside0.mk ((bkG BK110 hg : gb115 ≠ gb110))
              have z_NB116_115 := fun (h0_ : up b 14 14 = true) (h1_ : up b 14 15 = true) => (show gb116 ≠ gb115 from ((Nat.ne_of_lt (by rw [hg]; exact (by (cases e17_ : b 17 with | true => exact blk_lt (Q_BK116_e17 e17_) | false => exact blk_lt (Q_BK116 (by first | exact h0_ | exact h1_) e17_)))) : gb116 ≠ gb115)))
              have z_NB115_116 := fun (h0_ : up b 14 14 = true) (h1_ : up b 14 15 = true) => (show gb115 ≠ gb116 from ((Nat.ne_of_gt (by rw [hg]; exact (by (cases e17_ : b 17 with | true => exact blk_lt (Q_BK116_e17 e17_) | false => exact blk_lt (Q_BK116 (by first | exact h0_ | exact h1_) e17_)))) : gb115 ≠ gb116)))
              have z_BK116 := fun (h0_ : b 15 = true) (h1_ : b 17 = false) => (show w31.heap[gb116]? = some (.cells #[.int .i64 0, .int .i64 0] 24 (0, 0)) from by first | exact (blk_below (g := gb116) (o := .cells #[.int .i64 0, .int .i64 0] 24 (0, 0)) (by (with_reducible repeat (first | refine blk_drewN ?_ _ | refine blk_drew ?_ | refine blk_alloc ?_ _)); exact (Q_BK116 h0_ h1_)) hb))
              clear BK101
              clear BK102
              clear BK104
              clear BK110
              clear HB
              have BK101 := n0_
              have BK102 := n1_
              have BK104 := n2_
              have BK110 := n3_
              have HB := n4_
              have BK115 := n5_
              have GW115 := n6_
              have GE115 := n7_
              have NB101_115 := n8_
              have NB115_101 := n9_
              have NB102_115 := n10_
              have NB115_102 := n11_
              have NB104_115 := n12_
              have NB115_104 := n13_
              have NB110_115 := n14_
              have NB115_110 := n15_
              clear n0_ n1_ n2_ n3_ n4_ n5_ n6_ n7_ n8_ n9_ n10_ n11_ n12_ n13_ n14_ n15_
              clear hb hbox hg
              refine hK.out _ _ ⟨gb115, gb116, (.pointer (some ⟨gb115, 0, none⟩)), m15_, (by rw [ha.out]; exact putSel_upk 8 hb_ rfl rfl rfl), (bkU BK101), (bkU BK102), (bkU BK104), (bkU BK110), (by repeat (first | (with_reducible first | exact HB.out | apply below_alloc | apply pw_below_drewN | apply below_drew1 | refine below_set ?_ GE101.out | refine below_set ?_ GE102.out | refine below_set ?_ GE104.out | refine below_set ?_ GE110.out | refine below_set ?_ GE115.out) | exact HB.out)), z_NB116_115, z_NB115_116, fun _ _ => (bkU BK115), fun _ => GW115.out, fun _ => GE115.out, fun _ => NB101_115.out, fun _ => NB115_101.out, fun _ => NB102_115.out, fun _ => NB115_102.out, fun _ => NB104_115.out, fun _ => NB115_104.out, fun _ => NB110_115.out, fun _ => NB115_110.out, z_BK116, Q_GW116, Q_GE116, Q_NB101_116, Q_NB116_101, Q_NB102_116, Q_NB116_102, Q_NB104_116, Q_NB116_104, Q_NB110_116, Q_NB116_110, fun h0_ => absurd ((hoff 16 (by kernel_rfl)).symm.trans h0_) (by decide), fun h0_ => absurd ((hoff 17 (by kernel_rfl)).symm.trans h0_) (by decide), fun _ => rfl, Q_X15_⟩
            refine steps_cons ?_ ?_
            · rintro b a w' ⟨gb115, gb116, m14_, m15_, ha, Q_BK101, Q_BK102, Q_BK104, Q_BK110, Q_HB, Q_NB116_115, Q_NB115_116, Q_BK115, Q_GW115, Q_GE115, Q_NB101_115, Q_NB115_101, Q_NB102_115, Q_NB115_102, Q_NB104_115, Q_NB115_104, Q_NB110_115, Q_NB115_110, Q_BK116, Q_GW116, Q_GE116, Q_NB101_116, Q_NB116_101, Q_NB102_116, Q_NB116_102, Q_NB104_116, Q_NB116_104, Q_NB110_116, Q_NB116_110, Q_BK115_e16, Q_BK116_e17, Q_X14_, Q_X15_⟩ hb_ hon hoff
              refine ⟨_, rfl, fun K hK => ?_⟩
              replace ha := Aside0.mk ha
              have BK101 := Aside0.mk Q_BK101
              have BK102 := Aside0.mk Q_BK102
              have BK104 := Aside0.mk Q_BK104
              have BK110 := Aside0.mk Q_BK110
              have HB := Aside0.mk Q_HB
              refine box_step ?hg (N := 11) ?hd (cs := #[.int .i64 0, .int .i64 0]) (t := 24) ?hr ?_; (case hd => rfl); (case hg => rfl); (case hr => first | (go_simp; done) | (go_simp; rfl))
              intro gb116 hg w31 hbox hb
              have n0_ := Aside0.mk (bkB BK101 hb)
              have n1_ := Aside0.mk (bkB BK102 hb)
              have n2_ := Aside0.mk (bkB BK104 hb)
              have n3_ := Aside0.mk (bkB BK110 hb)
              have n4_ := Aside0.mk (below_step (by repeat (first | (with_reducible first | exact HB.out | apply below_alloc | apply pw_below_drewN | apply below_drew1 | refine below_set ?_ GE101.out | refine below_set ?_ GE102.out | refine below_set ?_ GE104.out | refine below_set ?_ GE110.out) | exact HB.out)) hb)
              have n5_ := Aside0.mk (hbox)
              have n6_ := Aside0.mk ((by rw [hg]; exact (below_size (by repeat (first | (with_reducible first | exact HB.out | apply below_alloc | apply pw_below_drewN | apply below_drew1 | refine below_set ?_ GE101.out | refine below_set ?_ GE102.out | refine below_set ?_ GE104.out | refine below_set ?_ GE110.out) | exact HB.out))) : w.heap.size ≤ gb116))
              have n7_ := Aside0.mk ((by rw [hg]; exact (below_size (by repeat (first | (with_reducible first | exact HB.out | apply below_alloc | apply pw_below_drewN | apply below_drew1 | refine below_set ?_ GE101.out | refine below_set ?_ GE102.out | refine below_set ?_ GE104.out | refine below_set ?_ GE110.out) | exact HB.out))) : w.heap.size ≤ gb116))
              have n8_ := Aside0.mk ((bkL BK101 hg : gb101 ≠ gb116))
              have n9_ := Aside0.mk ((bkG BK101 hg : gb116 ≠ gb101))
              have n10_ := Aside0.mk ((bkL BK102 hg : gb102 ≠ gb116))
              have n11_ := Aside0.mk ((bkG BK102 hg : gb116 ≠ gb102))
              have n12_ := Aside0.mk ((bkL BK104 hg : gb104 ≠ gb116))
              have n13_ := Aside0.mk ((bkG BK104 hg : gb116 ≠ gb104))
              have n14_ := Aside0.mk ((bkL BK110 hg : gb110 ≠ gb116))
              have n15_ := Aside0.mk ((bkG BK110 hg : gb116 ≠ gb110))
              have z_NB116_115 := fun (h0_ : up b 15 14 = true) (h1_ : up b 15 15 = true) => (show gb116 ≠ gb115 from ((Nat.ne_of_gt (by rw [hg]; exact (by (cases e16_ : b 16 with | true => exact blk_lt (Q_BK115_e16 e16_) | false => exact blk_lt (Q_BK115 (by first | exact h0_ | exact h1_) e16_)))) : gb116 ≠ gb115)))
              have z_NB115_116 := fun (h0_ : up b 15 14 = true) (h1_ : up b 15 15 = true) => (show gb115 ≠ gb116 from ((Nat.ne_of_lt (by rw [hg]; exact (by (cases e16_ : b 16 with | true => exact blk_lt (Q_BK115_e16 e16_) | false => exact blk_lt (Q_BK115 (by first | exact h0_ | exact h1_) e16_)))) : gb115 ≠ gb116)))
              have z_BK115 := fun (h0_ : b 14 = true) (h1_ : b 16 = false) => (show w31.heap[gb115]? = some (.cells #[.int .i64 0, .int .i64 0] 24 (0, 0)) from by first | exact (blk_below (g := gb115) (o := .cells #[.int .i64 0, .int .i64 0] 24 (0, 0)) (by (with_reducible repeat (first | refine blk_drewN ?_ _ | refine blk_drew ?_ | refine blk_alloc ?_ _)); exact (Q_BK115 h0_ h1_)) hb))
              clear BK101
              clear BK102
              clear BK104
              clear BK110
              clear HB
              have BK101 := n0_
              have BK102 := n1_
              have BK104 := n2_
              have BK110 := n3_
              have HB := n4_
              have BK116 := n5_
              have GW116 := n6_
              have GE116 := n7_
              have NB101_116 := n8_
              have NB116_101 := n9_
              have NB102_116 := n10_
              have NB116_102 := n11_
              have NB104_116 := n12_
              have NB116_104 := n13_
              have NB110_116 := n14_
              have NB116_110 := n15_
              clear n0_ n1_ n2_ n3_ n4_ n5_ n6_ n7_ n8_ n9_ n10_ n11_ n12_ n13_ n14_ n15_
              clear hb hbox hg
              refine hK.out _ _ ⟨gb115, gb116, m14_, (.pointer (some ⟨gb116, 0, none⟩)), (by rw [ha.out]; exact putSel_upk 9 hb_ rfl rfl rfl), (bkU BK101), (bkU BK102), (bkU BK104), (bkU BK110), (by repeat (first | (with_reducible first | exact HB.out | apply below_alloc | apply pw_below_drewN | apply below_drew1 | refine below_set ?_ GE101.out | refine below_set ?_ GE102.out | refine below_set ?_ GE104.out | refine below_set ?_ GE110.out | refine below_set ?_ GE116.out) | exact HB.out)), z_NB116_115, z_NB115_116, z_BK115, Q_GW115, Q_GE115, Q_NB101_115, Q_NB115_101, Q_NB102_115, Q_NB115_102, Q_NB104_115, Q_NB115_104, Q_NB110_115, Q_NB115_110, fun _ _ => (bkU BK116), fun _ => GW116.out, fun _ => GE116.out, fun _ => NB101_116.out, fun _ => NB116_101.out, fun _ => NB102_116.out, fun _ => NB116_102.out, fun _ => NB104_116.out, fun _ => NB116_104.out, fun _ => NB110_116.out, fun _ => NB116_110.out, fun h0_ => absurd ((hoff 16 (by kernel_rfl)).symm.trans h0_) (by decide), fun h0_ => absurd ((hoff 17 (by kernel_rfl)).symm.trans h0_) (by decide), Q_X14_, fun _ => rfl⟩
            refine steps_cons ?_ ?_
            · rintro b a w' ⟨gb115, gb116, m14_, m15_, ha, Q_BK101, Q_BK102, Q_BK104, Q_BK110, Q_HB, Q_NB116_115, Q_NB115_116, Q_BK115, Q_GW115, Q_GE115, Q_NB101_115, Q_NB115_101, Q_NB102_115, Q_NB115_102, Q_NB104_115, Q_NB115_104, Q_NB110_115, Q_NB115_110, Q_BK116, Q_GW116, Q_GE116, Q_NB101_116, Q_NB116_101, Q_NB102_116, Q_NB116_102, Q_NB104_116, Q_NB116_104, Q_NB110_116, Q_NB116_110, Q_BK115_e16, Q_BK116_e17, Q_X14_, Q_X15_⟩ hb_ hon hoff
              refine ⟨_, rfl, fun K hK => ?_⟩
              have e10 : a.tmps[10]? = some (m14_) := by rw [ha]; exact putSel_on (e := (14, 10, m14_)) 8 rfl rfl (hon 14 (by kernel_rfl)) rfl
              rw [Q_X14_ (hon 14 (by kernel_rfl))] at e10
              have e38 : a.tmps[38]? = some (.agg #[.int .i64 t111, .int .i64 t112]) := by rw [ha]; exact putSel_on (e := (6, 38, .agg #[.int .i64 t111, .int .i64 t112])) 3 rfl rfl (hon 6 (by kernel_rfl)) rfl
              replace ha := Aside0.mk ha
              have BK101 := Aside0.mk Q_BK101
              have BK102 := Aside0.mk Q_BK102
              have BK104 := Aside0.mk Q_BK104
              have BK110 := Aside0.mk Q_BK110
              have HB := Aside0.mk Q_HB
              have NB116_115 := Aside0.mk (Q_NB116_115 (hon 14 (by kernel_rfl)) (hon 15 (by kernel_rfl)))
              have NB115_116 := Aside0.mk (Q_NB115_116 (hon 14 (by kernel_rfl)) (hon 15 (by kernel_rfl)))
              have BK115 := Aside0.mk (Q_BK115 (hon 14 (by kernel_rfl)) hb_)
              have GW115 := Aside0.mk (Q_GW115 (hon 14 (by kernel_rfl)))
              have GE115 := Aside0.mk (Q_GE115 (hon 14 (by kernel_rfl)))
              have NB101_115 := Aside0.mk (Q_NB101_115 (hon 14 (by kernel_rfl)))
              have NB115_101 := Aside0.mk (Q_NB115_101 (hon 14 (by kernel_rfl)))
              have NB102_115 := Aside0.mk (Q_NB102_115 (hon 14 (by kernel_rfl)))
              have NB115_102 := Aside0.mk (Q_NB115_102 (hon 14 (by kernel_rfl)))
              have NB104_115 := Aside0.mk (Q_NB104_115 (hon 14 (by kernel_rfl)))
              have NB115_104 := Aside0.mk (Q_NB115_104 (hon 14 (by kernel_rfl)))
              have NB110_115 := Aside0.mk (Q_NB110_115 (hon 14 (by kernel_rfl)))
              have NB115_110 := Aside0.mk (Q_NB115_110 (hon 14 (by kernel_rfl)))
              have BK116 := Aside0.mk (Q_BK116 (hon 15 (by kernel_rfl)) (hoff 17 (by kernel_rfl)))
              have GW116 := Aside0.mk (Q_GW116 (hon 15 (by kernel_rfl)))
              have GE116 := Aside0.mk (Q_GE116 (hon 15 (by kernel_rfl)))
              have NB101_116 := Aside0.mk (Q_NB101_116 (hon 15 (by kernel_rfl)))
              have NB116_101 := Aside0.mk (Q_NB116_101 (hon 15 (by kernel_rfl)))
              have NB102_116 := Aside0.mk (Q_NB102_116 (hon 15 (by kernel_rfl)))
              have NB116_102 := Aside0.mk (Q_NB116_102 (hon 15 (by kernel_rfl)))
              have NB104_116 := Aside0.mk (Q_NB104_116 (hon 15 (by kernel_rfl)))
              have NB116_104 := Aside0.mk (Q_NB116_104 (hon 15 (by kernel_rfl)))
              have NB110_116 := Aside0.mk (Q_NB110_116 (hon 15 (by kernel_rfl)))
              have NB116_110 := Aside0.mk (Q_NB116_110 (hon 15 (by kernel_rfl)))
              have hs36 : w'.cell? ⟨gb115, 0, none⟩ = some (.int .i64 0) := (blk_cell BK115.out 0).trans rfl
              have hfs36 := blk_frozen BK115.out 0
              have hns36_0 := NB101_115.out
              have hns36_1 := NB102_115.out
              have hns36_2 := NB104_115.out
              have hns36_3 := NB110_115.out
              have hns36_5 := NB116_115.out
              have hms36_0 := NB115_101.out
              have hms36_1 := NB115_102.out
              have hms36_2 := NB115_104.out
              have hms36_3 := NB115_110.out
              have hms36_5 := NB115_116.out
              have hs37 : w'.cell? ⟨gb115, 1, none⟩ = some (.int .i64 0) := (blk_cell BK115.out 1).trans rfl
              have hfs37 := blk_frozen BK115.out 1
              have hns37_0 := NB101_115.out
              have hns37_1 := NB102_115.out
              have hns37_2 := NB104_115.out
              have hns37_3 := NB110_115.out
              have hns37_5 := NB116_115.out
              have hms37_0 := NB115_101.out
              have hms37_1 := NB115_102.out
              have hms37_2 := NB115_104.out
              have hms37_3 := NB115_110.out
              have hms37_5 := NB115_116.out
              refine skip_ (w1 := ?_) (by rfl) rfl ?_ ?_
              rotate_left
              · go_simp
                rfl
              refine hK.out _ _ ⟨gb115, gb116, m14_, m15_, (by rw [ha.out]; exact putSel_none (v := undef) rfl), (bkF2 BK101 NB101_115), (bkF2 BK102 NB102_115), (bkF2 BK104 NB104_115), (bkF2 BK110 NB110_115), (by repeat (first | (with_reducible first | exact HB.out | apply below_alloc | apply pw_below_drewN | apply below_drew1 | refine below_set ?_ GE101.out | refine below_set ?_ GE102.out | refine below_set ?_ GE104.out | refine below_set ?_ GE110.out | refine below_set ?_ GE115.out | refine below_set ?_ GE116.out) | exact HB.out)), fun _ _ => NB116_115.out, fun _ _ => NB115_116.out, fun _ h1_ => absurd ((up_self b 16).symm.trans h1_) (by decide), fun _ => GW115.out, fun _ => GE115.out, fun _ => NB101_115.out, fun _ => NB115_101.out, fun _ => NB102_115.out, fun _ => NB115_102.out, fun _ => NB104_115.out, fun _ => NB115_104.out, fun _ => NB110_115.out, fun _ => NB115_110.out, fun _ _ => (bkF2 BK116 NB116_115), fun _ => GW116.out, fun _ => GE116.out, fun _ => NB101_116.out, fun _ => NB116_101.out, fun _ => NB102_116.out, fun _ => NB116_102.out, fun _ => NB104_116.out, fun _ => NB116_104.out, fun _ => NB110_116.out, fun _ => NB116_110.out, fun _ => (by (with_reducible repeat (first | refine blk_drewN ?_ _ | refine blk_drew ?_ | refine blk_alloc ?_ _)); refine blk_put (cs := #[.int .i64 t111, .int .i64 0]) ?_ 1 _ rfl; (with_reducible repeat (first | refine blk_drewN ?_ _ | refine blk_drew ?_ | refine blk_alloc ?_ _)); refine blk_put (cs := #[.int .i64 0, .int .i64 0]) ?_ 0 _ rfl; (with_reducible repeat (first | refine blk_drewN ?_ _ | refine blk_drew ?_ | refine blk_alloc ?_ _)); exact BK115.out), fun h0_ => absurd ((hoff 17 (by kernel_rfl)).symm.trans h0_) (by decide), Q_X14_, Q_X15_⟩
            refine steps_cons ?_ ?_
            · rintro b a w' ⟨gb115, gb116, m14_, m15_, ha, Q_BK101, Q_BK102, Q_BK104, Q_BK110, Q_HB, Q_NB116_115, Q_NB115_116, Q_BK115, Q_GW115, Q_GE115, Q_NB101_115, Q_NB115_101, Q_NB102_115, Q_NB115_102, Q_NB104_115, Q_NB115_104, Q_NB110_115, Q_NB115_110, Q_BK116, Q_GW116, Q_GE116, Q_NB101_116, Q_NB116_101, Q_NB102_116, Q_NB116_102, Q_NB104_116, Q_NB116_104, Q_NB110_116, Q_NB116_110, Q_BK115_e16, Q_BK116_e17, Q_X14_, Q_X15_⟩ hb_ hon hoff
              refine ⟨_, rfl, fun K hK => ?_⟩
              have e11 : a.tmps[11]? = some (m15_) := by rw [ha]; exact putSel_on (e := (15, 11, m15_)) 9 rfl rfl (hon 15 (by kernel_rfl)) rfl
              rw [Q_X15_ (hon 15 (by kernel_rfl))] at e11
              have e45 : a.tmps[45]? = some (.agg #[.int .i64 t113, .int .i64 t114]) := by rw [ha]; exact putSel_on (e := (13, 45, .agg #[.int .i64 t113, .int .i64 t114])) 7 rfl rfl (hon 13 (by kernel_rfl)) rfl
              replace ha := Aside0.mk ha
              have BK101 := Aside0.mk Q_BK101
              have BK102 := Aside0.mk Q_BK102
              have BK104 := Aside0.mk Q_BK104
              have BK110 := Aside0.mk Q_BK110
              have HB := Aside0.mk Q_HB
              have NB116_115 := Aside0.mk (Q_NB116_115 (hon 14 (by kernel_rfl)) (hon 15 (by kernel_rfl)))
              have NB115_116 := Aside0.mk (Q_NB115_116 (hon 14 (by kernel_rfl)) (hon 15 (by kernel_rfl)))
              have GW115 := Aside0.mk (Q_GW115 (hon 14 (by kernel_rfl)))
              have GE115 := Aside0.mk (Q_GE115 (hon 14 (by kernel_rfl)))
              have NB101_115 := Aside0.mk (Q_NB101_115 (hon 14 (by kernel_rfl)))
              have NB115_101 := Aside0.mk (Q_NB115_101 (hon 14 (by kernel_rfl)))
              have NB102_115 := Aside0.mk (Q_NB102_115 (hon 14 (by kernel_rfl)))
              have NB115_102 := Aside0.mk (Q_NB115_102 (hon 14 (by kernel_rfl)))
              have NB104_115 := Aside0.mk (Q_NB104_115 (hon 14 (by kernel_rfl)))
              have NB115_104 := Aside0.mk (Q_NB115_104 (hon 14 (by kernel_rfl)))
              have NB110_115 := Aside0.mk (Q_NB110_115 (hon 14 (by kernel_rfl)))
              have NB115_110 := Aside0.mk (Q_NB115_110 (hon 14 (by kernel_rfl)))
              have BK116 := Aside0.mk (Q_BK116 (hon 15 (by kernel_rfl)) hb_)
              have GW116 := Aside0.mk (Q_GW116 (hon 15 (by kernel_rfl)))
              have GE116 := Aside0.mk (Q_GE116 (hon 15 (by kernel_rfl)))
              have NB101_116 := Aside0.mk (Q_NB101_116 (hon 15 (by kernel_rfl)))
              have NB116_101 := Aside0.mk (Q_NB116_101 (hon 15 (by kernel_rfl)))
              have NB102_116 := Aside0.mk (Q_NB102_116 (hon 15 (by kernel_rfl)))
              have NB116_102 := Aside0.mk (Q_NB116_102 (hon 15 (by kernel_rfl)))
              have NB104_116 := Aside0.mk (Q_NB104_116 (hon 15 (by kernel_rfl)))
              have NB116_104 := Aside0.mk (Q_NB116_104 (hon 15 (by kernel_rfl)))
              have NB110_116 := Aside0.mk (Q_NB110_116 (hon 15 (by kernel_rfl)))
              have NB116_110 := Aside0.mk (Q_NB116_110 (hon 15 (by kernel_rfl)))
              have BK115 := Aside0.mk (Q_BK115_e16 (hon 16 (by kernel_rfl)))
              have hs38 : w'.cell? ⟨gb116, 0, none⟩ = some (.int .i64 0) := (blk_cell BK116.out 0).trans rfl
              have hfs38 := blk_frozen BK116.out 0
              have hns38_0 := NB101_116.out
              have hns38_1 := NB102_116.out
              have hns38_2 := NB104_116.out
              have hns38_3 := NB110_116.out
              have hns38_4 := NB115_116.out
              have hms38_0 := NB116_101.out
              have hms38_1 := NB116_102.out
              have hms38_2 := NB116_104.out
              have hms38_3 := NB116_110.out
              have hms38_4 := NB116_115.out
              have hs39 : w'.cell? ⟨gb116, 1, none⟩ = some (.int .i64 0) := (blk_cell BK116.out 1).trans rfl
              have hfs39 := blk_frozen BK116.out 1
              have hns39_0 := NB101_116.out
              have hns39_1 := NB102_116.out
              have hns39_2 := NB104_116.out
              have hns39_3 := NB110_116.out
              have hns39_4 := NB115_116.out
              have hms39_0 := NB116_101.out
              have hms39_1 := NB116_102.out
              have hms39_2 := NB116_104.out
              have hms39_3 := NB116_110.out
              have hms39_4 := NB116_115.out
              refine skip_ (w1 := ?_) (by rfl) rfl ?_ ?_
              rotate_left
              · go_simp
                rfl
              refine hK.out _ _ ⟨gb115, gb116, m14_, m15_, (by rw [ha.out]; exact putSel_none (v := undef) rfl), (bkF2 BK101 NB101_116), (bkF2 BK102 NB102_116), (bkF2 BK104 NB104_116), (bkF2 BK110 NB110_116), (by repeat (first | (with_reducible first | exact HB.out | apply below_alloc | apply pw_below_drewN | apply below_drew1 | refine below_set ?_ GE101.out | refine below_set ?_ GE102.out | refine below_set ?_ GE104.out | refine below_set ?_ GE110.out | refine below_set ?_ GE115.out | refine below_set ?_ GE116.out) | exact HB.out)), fun _ _ => NB116_115.out, fun _ _ => NB115_116.out, fun _ h1_ => absurd ((hon 16 (by kernel_rfl)).symm.trans h1_) (by decide), fun _ => GW115.out, fun _ => GE115.out, fun _ => NB101_115.out, fun _ => NB115_101.out, fun _ => NB102_115.out, fun _ => NB115_102.out, fun _ => NB104_115.out, fun _ => NB115_104.out, fun _ => NB110_115.out, fun _ => NB115_110.out, fun _ h1_ => absurd ((up_self b 17).symm.trans h1_) (by decide), fun _ => GW116.out, fun _ => GE116.out, fun _ => NB101_116.out, fun _ => NB116_101.out, fun _ => NB102_116.out, fun _ => NB116_102.out, fun _ => NB104_116.out, fun _ => NB116_104.out, fun _ => NB110_116.out, fun _ => NB116_110.out, fun _ => (bkF2 BK115 NB115_116), fun _ => (by (with_reducible repeat (first | refine blk_drewN ?_ _ | refine blk_drew ?_ | refine blk_alloc ?_ _)); refine blk_put (cs := #[.int .i64 t113, .int .i64 0]) ?_ 1 _ rfl; (with_reducible repeat (first | refine blk_drewN ?_ _ | refine blk_drew ?_ | refine blk_alloc ?_ _)); refine blk_put (cs := #[.int .i64 0, .int .i64 0]) ?_ 0 _ rfl; (with_reducible repeat (first | refine blk_drewN ?_ _ | refine blk_drew ?_ | refine blk_alloc ?_ _)); exact BK116.out), Q_X14_, Q_X15_⟩
            exact steps_nil
          rintro b a w39 hall ⟨gb115, gb116, m14_, m15_, ha, Q_BK101, Q_BK102, Q_BK104, Q_BK110, Q_HB, Q_NB116_115, Q_NB115_116, Q_BK115, Q_GW115, Q_GE115, Q_NB101_115, Q_NB115_101, Q_NB102_115, Q_NB115_102, Q_NB104_115, Q_NB115_104, Q_NB110_115, Q_NB115_110, Q_BK116, Q_GW116, Q_GE116, Q_NB101_116, Q_NB116_101, Q_NB102_116, Q_NB116_102, Q_NB104_116, Q_NB116_104, Q_NB110_116, Q_NB116_110, Q_BK115_e16, Q_BK116_e17, Q_X14_, Q_X15_⟩
          clear BK101 BK102 BK104 BK110 HB
          have hb1_ := hall 1 (by kernel_rfl)
          have hb3_ := hall 3 (by kernel_rfl)
          have hb4_ := hall 4 (by kernel_rfl)
          have hb6_ := hall 6 (by kernel_rfl)
          have hb8_ := hall 8 (by kernel_rfl)
          have hb10_ := hall 10 (by kernel_rfl)
          have hb11_ := hall 11 (by kernel_rfl)
          have hb13_ := hall 13 (by kernel_rfl)
          have hb14_ := hall 14 (by kernel_rfl)
          have hb15_ := hall 15 (by kernel_rfl)
          have hb16_ := hall 16 (by kernel_rfl)
          have hb17_ := hall 17 (by kernel_rfl)
          subst ha
          obtain rfl := Q_X14_ hb14_
          obtain rfl := Q_X15_ hb15_
          simp only [putSel, hb1_, hb3_, hb4_, hb6_, hb8_, hb10_, hb11_, hb13_, hb14_, hb15_, hb16_, hb17_, if_true, Act.put, List.setIfInBounds_toArray, List.set_cons_zero, List.set_cons_succ]
          have BK101 := Aside0.mk Q_BK101
          clear Q_BK101
          have BK102 := Aside0.mk Q_BK102
          clear Q_BK102
          have BK104 := Aside0.mk Q_BK104
          clear Q_BK104
          have BK110 := Aside0.mk Q_BK110
          clear Q_BK110
          have HB := Aside0.mk Q_HB
          clear Q_HB
          have NB116_115 := Aside0.mk (Q_NB116_115 hb14_ hb15_)
          clear Q_NB116_115
          have NB115_116 := Aside0.mk (Q_NB115_116 hb14_ hb15_)
          clear Q_NB115_116
          clear Q_BK115
          have GW115 := Aside0.mk (Q_GW115 hb14_)
          clear Q_GW115
          have GE115 := Aside0.mk (Q_GE115 hb14_)
          clear Q_GE115
          have NB101_115 := Aside0.mk (Q_NB101_115 hb14_)
          clear Q_NB101_115
          have NB115_101 := Aside0.mk (Q_NB115_101 hb14_)
          clear Q_NB115_101
          have NB102_115 := Aside0.mk (Q_NB102_115 hb14_)
          clear Q_NB102_115
          have NB115_102 := Aside0.mk (Q_NB115_102 hb14_)
          clear Q_NB115_102
          have NB104_115 := Aside0.mk (Q_NB104_115 hb14_)
          clear Q_NB104_115
          have NB115_104 := Aside0.mk (Q_NB115_104 hb14_)
          clear Q_NB115_104
          have NB110_115 := Aside0.mk (Q_NB110_115 hb14_)
          clear Q_NB110_115
          have NB115_110 := Aside0.mk (Q_NB115_110 hb14_)
          clear Q_NB115_110
          clear Q_BK116
          have GW116 := Aside0.mk (Q_GW116 hb15_)
          clear Q_GW116
          have GE116 := Aside0.mk (Q_GE116 hb15_)
          clear Q_GE116
          have NB101_116 := Aside0.mk (Q_NB101_116 hb15_)
          clear Q_NB101_116
          have NB116_101 := Aside0.mk (Q_NB116_101 hb15_)
          clear Q_NB116_101
          have NB102_116 := Aside0.mk (Q_NB102_116 hb15_)
          clear Q_NB102_116
          have NB116_102 := Aside0.mk (Q_NB116_102 hb15_)
          clear Q_NB116_102
          have NB104_116 := Aside0.mk (Q_NB104_116 hb15_)
          clear Q_NB104_116
          have NB116_104 := Aside0.mk (Q_NB116_104 hb15_)
          clear Q_NB116_104
          have NB110_116 := Aside0.mk (Q_NB110_116 hb15_)
          clear Q_NB110_116
          have NB116_110 := Aside0.mk (Q_NB116_110 hb15_)
          clear Q_NB116_110
          have BK115 := Aside0.mk (Q_BK115_e16 hb16_)
          clear Q_BK115_e16
          have BK116 := Aside0.mk (Q_BK116_e17 hb17_)
          clear Q_BK116_e17
          clear hall hb1_ hb3_ hb4_ hb6_ hb8_ hb10_ hb11_ hb13_ hb14_ hb15_ hb16_ hb17_
          go_upto_region 9 with (fail)
          go_cut [52] (fun v52 wc => ∃ (kq : Nat) (x52_19 : Bool), v52 = .bool x52_19 ∧ Aside0 (arm_slopes.j2 kq l0 x4_2 l0 (l0.length : Int) x14_1 y105 (y105.length : Int) x23_2 x52_19 x102000_2 x102001_2 x103000_2 x103001_2 ((rd_T73 l0 x14_1).f0) ((rd_T73 l0 x14_1).f1) ((rd_T73 l0 x14_1).f2) t111 t112 t113 t114 = some (r1, r2, r3, r4, r5)) ∧ Aside0 (kq ≤ k2) ∧ Aside0 (wc.heap[gb101]? = some (.cells #[.int .i64 x102000_2, .int .i64 x102001_2] 24 (0, 0))) ∧ Aside0 (wc.heap[gb102]? = some (.cells #[.int .i64 x103000_2, .int .i64 x103001_2] 24 (0, 0))) ∧ Aside0 (wc.heap[gb104]? = some (.cells #[.int .i64 ((rd_T73 l0 x14_1).f0), .int .i64 ((rd_T73 l0 x14_1).f1), .int .i64 ((rd_T73 l0 x14_1).f2)] 73 (0, 0))) ∧ Aside0 (wc.heap[gb110]? = some (.cells #[.int .i64 ((rd_T73 y105 x23_2).f0), .int .i64 ((rd_T73 y105 x23_2).f1), .int .i64 ((rd_T73 y105 x23_2).f2)] 73 (0, 0))) ∧ Aside0 (wc.heap[gb115]? = some (.cells #[.int .i64 t111, .int .i64 t112] 24 (0, 0))) ∧ Aside0 (wc.heap[gb116]? = some (.cells #[.int .i64 t113, .int .i64 t114] 24 (0, 0))) ∧ Aside0 (Below w.heap.size w wc))
          case first =>
            have H := HC20.out
            clear HC20
            by_cases c40 : x4_2 = true
            rotate_left
            · replace c40 := Bool.eq_false_iff.mpr c40
              subst c40
              have H1 : (arm_slopes.j2 k2 l0 false l0 (l0.length : Int) x14_1 y105 (y105.length : Int) x23_2 true x102000_2 x102001_2 x103000_2 x103001_2 ((rd_T73 l0 x14_1).f0) ((rd_T73 l0 x14_1).f1) ((rd_T73 l0 x14_1).f2) t111 t112 t113 t114) = some (r1, r2, r3, r4, r5) := by rw [if_neg (show ¬ (false = true) by decide)] at H; exact H
              clear H
              have H := H1
              clear H1
              have H' := Aside0.mk H
              clear H
              go_wp2
              go_meet
              case rel => exact ⟨_, (true), (by first | rfl | (simp; done) | (simp [*]; done)), H', ⟨by have := HK1.out; have := HK2.out; first | omega | exact Nat.le_refl _⟩, ⟨bkU BK101⟩, ⟨bkU BK102⟩, ⟨bkU BK104⟩, ⟨bkU BK110⟩, ⟨bkU BK115⟩, ⟨bkU BK116⟩, ⟨by repeat (first | (with_reducible first | exact HB.out | apply below_alloc | apply pw_below_drewN | apply below_drew1 | refine below_set ?_ GE101.out | refine below_set ?_ GE102.out | refine below_set ?_ GE104.out | refine below_set ?_ GE110.out | refine below_set ?_ GE115.out | refine below_set ?_ GE116.out) | exact HB.out)⟩⟩
            subst c40
            have H1 : ((arm_less.f x102000_2 x102001_2 t111 t112).bind fun t117 => (arm_slopes.j2 k2 l0 true l0 (l0.length : Int) x14_1 y105 (y105.length : Int) x23_2 t117 x102000_2 x102001_2 x103000_2 x103001_2 ((rd_T73 l0 x14_1).f0) ((rd_T73 l0 x14_1).f1) ((rd_T73 l0 x14_1).f2) t111 t112 t113 t114)) = some (r1, r2, r3, r4, r5) := by rw [if_pos rfl] at H; exact H
            clear H
            have H := H1
            clear H1
            replace H := Option.bind_eq_some_iff.mp H
            obtain ⟨t117, A410, H⟩ := H
            replace H : (arm_slopes.j2 k2 l0 true l0 (l0.length : Int) x14_1 y105 (y105.length : Int) x23_2 t117 x102000_2 x102001_2 x103000_2 x103001_2 ((rd_T73 l0 x14_1).f0) ((rd_T73 l0 x14_1).f1) ((rd_T73 l0 x14_1).f2) t111 t112 t113 t114) = some (r1, r2, r3, r4, r5) := H
            have A41 := Aside0.mk A410
            clear A410
            have H' := Aside0.mk H
            clear H
            have hnb42 := NB101_102.out
            have hnc42 := NB102_101.out
            have hnb43 := NB101_104.out
            have hnc43 := NB104_101.out
            have hnb44 := NB101_110.out
            have hnc44 := NB110_101.out
            have hnb45 := NB101_115.out
            have hnc45 := NB115_101.out
            have hnb46 := NB101_116.out
            have hnc46 := NB116_101.out
            have hcz47_0 : w39.cell? ⟨gb101, 0, none⟩ = some (.int .i64 x102000_2) := (blk_cell BK101.out 0).trans rfl
            have hcz47_1 : w39.cell? ⟨gb101, 1, none⟩ = some (.int .i64 x102001_2) := (blk_cell BK101.out 1).trans rfl
            have hfz47_0 := blk_frozen BK101.out 0
            have hfz47_1 := blk_frozen BK101.out 1
            have hnb48 := NB115_102.out
            have hnc48 := NB102_115.out
            have hnb49 := NB115_104.out
            have hnc49 := NB104_115.out
            have hnb50 := NB115_110.out
            have hnc50 := NB110_115.out
            have hnb51 := NB115_116.out
            have hnc51 := NB116_115.out
            have hcz52_0 : w39.cell? ⟨gb115, 0, none⟩ = some (.int .i64 t111) := (blk_cell BK115.out 0).trans rfl
            have hcz52_1 : w39.cell? ⟨gb115, 1, none⟩ = some (.int .i64 t112) := (blk_cell BK115.out 1).trans rfl
            have hfz52_0 := blk_frozen BK115.out 0
            have hfz52_1 := blk_frozen BK115.out 1
            go_wp2_with (first | (go_at_call 56; (with_reducible refine (arm_less.calls x102000_2 x102001_2 t111 t112 t117 _ A41.out).mono ?_); rintro e w53 ⟨rfl, hb⟩; have n0_ := Aside0.mk (bkB BK101 hb); have n1_ := Aside0.mk (bkB BK102 hb); have n2_ := Aside0.mk (bkB BK104 hb); have n3_ := Aside0.mk (bkB BK110 hb); have n4_ := Aside0.mk (bkB BK115 hb); have n5_ := Aside0.mk (bkB BK116 hb); have n6_ := Aside0.mk (below_step (by repeat (first | (with_reducible first | exact HB.out | apply below_alloc | apply pw_below_drewN | apply below_drew1 | refine below_set ?_ GE101.out | refine below_set ?_ GE102.out | refine below_set ?_ GE104.out | refine below_set ?_ GE110.out | refine below_set ?_ GE115.out | refine below_set ?_ GE116.out) | exact HB.out)) hb); clear BK101; clear BK102; clear BK104; clear BK110; clear BK115; clear BK116; clear HB; have BK101 := n0_; have BK102 := n1_; have BK104 := n2_; have BK110 := n3_; have BK115 := n4_; have BK116 := n5_; have HB := n6_; clear n0_ n1_ n2_ n3_ n4_ n5_ n6_; (try clear hb); (try clear hb2); (try clear hk); (try clear hi)))
            go_meet
            case rel => exact ⟨_, (t117), (by first | rfl | (simp; done) | (simp [*]; done)), H', ⟨by have := HK1.out; have := HK2.out; first | omega | exact Nat.le_refl _⟩, ⟨bkU BK101⟩, ⟨bkU BK102⟩, ⟨bkU BK104⟩, ⟨bkU BK110⟩, ⟨bkU BK115⟩, ⟨bkU BK116⟩, ⟨by repeat (first | (with_reducible first | exact HB.out | apply below_alloc | apply pw_below_drewN | apply below_drew1 | refine below_set ?_ GE101.out | refine below_set ?_ GE102.out | refine below_set ?_ GE104.out | refine below_set ?_ GE110.out | refine below_set ?_ GE115.out | refine below_set ?_ GE116.out) | exact HB.out)⟩⟩
          case rest =>
            clear HC20
            try clear c1
            try clear c2
            try clear p2
            try clear c4
            try clear c5
            try clear p6
            try clear c40
            try clear c42
            try clear c43
            try clear c44
            try clear c45
            try clear c46
            try clear c48
            try clear c49
            try clear c50
            try clear c51
            try clear c52
            try clear hcz47_0
            try clear hcz47_1
            try clear hcz52_0
            try clear hcz52_1
            try clear hfz47_0
            try clear hfz47_1
            try clear hfz52_0
            try clear hfz52_1
            obtain ⟨kq, x52_19, rfl, HA, HJ19, BK101, BK102, BK104, BK110, BK115, BK116, HB⟩ := hcut
            cases kq with
            | zero => exact absurd HA.out (by simp [arm_slopes.j2])
            | succ kj19 =>
              have H := HA.out
              clear HA
              simp only [arm_slopes.j2] at H
              by_cases c54 : x52_19 = true
              rotate_left
              · replace c54 := Bool.eq_false_iff.mpr c54
                subst c54
                have H1 : (if x4_2 = true then ((arm_less.f t113 t114 x103000_2 x103001_2).bind fun t119 => (if t119 = true then (arm_slopes.l1 kj19 l0 true l0 (l0.length : Int) x14_1 y105 (y105.length : Int) (wrap64 (x23_2 + 1)) x102000_2 x102001_2 t113 t114 ((rd_T73 l0 x14_1).f0) ((rd_T73 l0 x14_1).f1) ((rd_T73 l0 x14_1).f2)) else (arm_slopes.l1 kj19 l0 true l0 (l0.length : Int) x14_1 y105 (y105.length : Int) (wrap64 (x23_2 + 1)) x102000_2 x102001_2 x103000_2 x103001_2 ((rd_T73 l0 x14_1).f0) ((rd_T73 l0 x14_1).f1) ((rd_T73 l0 x14_1).f2)))) else (arm_slopes.l1 kj19 l0 true l0 (l0.length : Int) x14_1 y105 (y105.length : Int) (wrap64 (x23_2 + 1)) x102000_2 x102001_2 t113 t114 ((rd_T73 l0 x14_1).f0) ((rd_T73 l0 x14_1).f1) ((rd_T73 l0 x14_1).f2))) = some (r1, r2, r3, r4, r5) := by rw [if_neg (show ¬ (false = true) by decide)] at H; exact H
                clear H
                have H := H1
                clear H1
                by_cases c116 : x4_2 = true
                rotate_left
                · replace c116 := Bool.eq_false_iff.mpr c116
                  subst c116
                  have H1 : (arm_slopes.l1 kj19 l0 true l0 (l0.length : Int) x14_1 y105 (y105.length : Int) (wrap64 (x23_2 + 1)) x102000_2 x102001_2 t113 t114 ((rd_T73 l0 x14_1).f0) ((rd_T73 l0 x14_1).f1) ((rd_T73 l0 x14_1).f2)) = some (r1, r2, r3, r4, r5) := by rw [if_neg (show ¬ (false = true) by decide)] at H; exact H
                  clear H
                  have H := H1
                  clear H1
                  have H' := Aside0.mk H
                  clear H
                  have hnb145 := NB116_101.out
                  have hnc145 := NB101_116.out
                  have hnb146 := NB116_102.out
                  have hnc146 := NB102_116.out
                  have hnb147 := NB116_104.out
                  have hnc147 := NB104_116.out
                  have hnb148 := NB116_110.out
                  have hnc148 := NB110_116.out
                  have hnb149 := NB116_115.out
                  have hnc149 := NB115_116.out
                  have hcz150_0 : wc.cell? ⟨gb116, 0, none⟩ = some (.int .i64 t113) := (blk_cell BK116.out 0).trans rfl
                  have hcz150_1 : wc.cell? ⟨gb116, 1, none⟩ = some (.int .i64 t114) := (blk_cell BK116.out 1).trans rfl
                  have hfz150_0 := blk_frozen BK116.out 0
                  have hfz150_1 := blk_frozen BK116.out 1
                  have hnb151 := NB102_101.out
                  have hnc151 := NB101_102.out
                  have hnb152 := NB102_104.out
                  have hnc152 := NB104_102.out
                  have hnb153 := NB102_110.out
                  have hnc153 := NB110_102.out
                  have hnb154 := NB102_115.out
                  have hnc154 := NB115_102.out
                  have hcz155_0 : wc.cell? ⟨gb102, 0, none⟩ = some (.int .i64 x103000_2) := (blk_cell BK102.out 0).trans rfl
                  have hcz155_1 : wc.cell? ⟨gb102, 1, none⟩ = some (.int .i64 x103001_2) := (blk_cell BK102.out 1).trans rfl
                  have hfz155_0 := blk_frozen BK102.out 0
                  have hfz155_1 := blk_frozen BK102.out 1
                  go_wp2
                  go_roundg kj19
                  case measure => have := HK1.out; have := HK2.out; have := HJ19.out; omega
                  case rel => exact ⟨(true), (wrap64 (x23_2 + 1)), (x102000_2), (x102001_2), (t113), (t114), (by first | rfl | (simp; done) | (simp [*]; done)), (by first | rfl | (simp; done) | (simp [*]; done)), H', ⟨by have := HK1.out; have := HK2.out; have := HJ19.out; omega⟩, ⟨by (with_reducible repeat (first | refine blk_drewN ?_ _ | refine blk_drew ?_ | refine blk_alloc ?_ _)); refine blk_far ?_ NB101_102.out _; (with_reducible repeat (first | refine blk_drewN ?_ _ | refine blk_drew ?_ | refine blk_alloc ?_ _)); refine blk_far ?_ NB101_102.out _; (with_reducible repeat (first | refine blk_drewN ?_ _ | refine blk_drew ?_ | refine blk_alloc ?_ _)); exact BK101.out⟩, ⟨by (with_reducible repeat (first | refine blk_drewN ?_ _ | refine blk_drew ?_ | refine blk_alloc ?_ _)); refine blk_put (cs := #[.int .i64 t113, .int .i64 x103001_2]) ?_ 1 _ rfl; (with_reducible repeat (first | refine blk_drewN ?_ _ | refine blk_drew ?_ | refine blk_alloc ?_ _)); refine blk_put (cs := #[.int .i64 x103000_2, .int .i64 x103001_2]) ?_ 0 _ rfl; (with_reducible repeat (first | refine blk_drewN ?_ _ | refine blk_drew ?_ | refine blk_alloc ?_ _)); exact BK102.out⟩, ⟨by (with_reducible repeat (first | refine blk_drewN ?_ _ | refine blk_drew ?_ | refine blk_alloc ?_ _)); refine blk_far ?_ NB104_102.out _; (with_reducible repeat (first | refine blk_drewN ?_ _ | refine blk_drew ?_ | refine blk_alloc ?_ _)); refine blk_far ?_ NB104_102.out _; (with_reducible repeat (first | refine blk_drewN ?_ _ | refine blk_drew ?_ | refine blk_alloc ?_ _)); exact BK104.out⟩, ⟨by repeat (first | (with_reducible first | exact HB.out | apply below_alloc | apply pw_below_drewN | apply below_drew1 | refine below_set ?_ GE101.out | refine below_set ?_ GE102.out | refine below_set ?_ GE104.out | refine below_set ?_ GE110.out | refine below_set ?_ GE115.out | refine below_set ?_ GE116.out) | exact HB.out)⟩⟩
                subst c116
                have H1 : ((arm_less.f t113 t114 x103000_2 x103001_2).bind fun t119 => (if t119 = true then (arm_slopes.l1 kj19 l0 true l0 (l0.length : Int) x14_1 y105 (y105.length : Int) (wrap64 (x23_2 + 1)) x102000_2 x102001_2 t113 t114 ((rd_T73 l0 x14_1).f0) ((rd_T73 l0 x14_1).f1) ((rd_T73 l0 x14_1).f2)) else (arm_slopes.l1 kj19 l0 true l0 (l0.length : Int) x14_1 y105 (y105.length : Int) (wrap64 (x23_2 + 1)) x102000_2 x102001_2 x103000_2 x103001_2 ((rd_T73 l0 x14_1).f0) ((rd_T73 l0 x14_1).f1) ((rd_T73 l0 x14_1).f2)))) = some (r1, r2, r3, r4, r5) := by rw [if_pos rfl] at H; exact H
                clear H
                have H := H1
                clear H1
                replace H := Option.bind_eq_some_iff.mp H
                obtain ⟨t119, A1170, H⟩ := H
                replace H : (if t119 = true then (arm_slopes.l1 kj19 l0 true l0 (l0.length : Int) x14_1 y105 (y105.length : Int) (wrap64 (x23_2 + 1)) x102000_2 x102001_2 t113 t114 ((rd_T73 l0 x14_1).f0) ((rd_T73 l0 x14_1).f1) ((rd_T73 l0 x14_1).f2)) else (arm_slopes.l1 kj19 l0 true l0 (l0.length : Int) x14_1 y105 (y105.length : Int) (wrap64 (x23_2 + 1)) x102000_2 x102001_2 x103000_2 x103001_2 ((rd_T73 l0 x14_1).f0) ((rd_T73 l0 x14_1).f1) ((rd_T73 l0 x14_1).f2))) = some (r1, r2, r3, r4, r5) := H
                have A117 := Aside0.mk A1170
                clear A1170
                by_cases c118 : t119 = true
                rotate_left
                · replace c118 := Bool.eq_false_iff.mpr c118
                  subst c118
                  have H1 : (arm_slopes.l1 kj19 l0 true l0 (l0.length : Int) x14_1 y105 (y105.length : Int) (wrap64 (x23_2 + 1)) x102000_2 x102001_2 x103000_2 x103001_2 ((rd_T73 l0 x14_1).f0) ((rd_T73 l0 x14_1).f1) ((rd_T73 l0 x14_1).f2)) = some (r1, r2, r3, r4, r5) := by rw [if_neg (show ¬ (false = true) by decide)] at H; exact H
                  clear H
                  have H := H1
                  clear H1
                  have H' := Aside0.mk H
                  clear H
                  have hnb133 := NB116_101.out
                  have hnc133 := NB101_116.out
                  have hnb134 := NB116_102.out
                  have hnc134 := NB102_116.out
                  have hnb135 := NB116_104.out
                  have hnc135 := NB104_116.out
                  have hnb136 := NB116_110.out
                  have hnc136 := NB110_116.out
                  have hnb137 := NB116_115.out
                  have hnc137 := NB115_116.out
                  have hcz138_0 : wc.cell? ⟨gb116, 0, none⟩ = some (.int .i64 t113) := (blk_cell BK116.out 0).trans rfl
                  have hcz138_1 : wc.cell? ⟨gb116, 1, none⟩ = some (.int .i64 t114) := (blk_cell BK116.out 1).trans rfl
                  have hfz138_0 := blk_frozen BK116.out 0
                  have hfz138_1 := blk_frozen BK116.out 1
                  have hnb139 := NB102_101.out
                  have hnc139 := NB101_102.out
                  have hnb140 := NB102_104.out
                  have hnc140 := NB104_102.out
                  have hnb141 := NB102_110.out
                  have hnc141 := NB110_102.out
                  have hnb142 := NB102_115.out
                  have hnc142 := NB115_102.out
                  have hcz143_0 : wc.cell? ⟨gb102, 0, none⟩ = some (.int .i64 x103000_2) := (blk_cell BK102.out 0).trans rfl
                  have hcz143_1 : wc.cell? ⟨gb102, 1, none⟩ = some (.int .i64 x103001_2) := (blk_cell BK102.out 1).trans rfl
                  have hfz143_0 := blk_frozen BK102.out 0
                  have hfz143_1 := blk_frozen BK102.out 1
                  go_wp2_with (first | (go_at_call 56; (with_reducible refine (arm_less.calls t113 t114 x103000_2 x103001_2 false _ A117.out).mono ?_); rintro e w144 ⟨rfl, hb⟩; have n0_ := Aside0.mk (bkB BK101 hb); have n1_ := Aside0.mk (bkB BK102 hb); have n2_ := Aside0.mk (bkB BK104 hb); have n3_ := Aside0.mk (bkB BK110 hb); have n4_ := Aside0.mk (bkB BK115 hb); have n5_ := Aside0.mk (bkB BK116 hb); have n6_ := Aside0.mk (below_step (by repeat (first | (with_reducible first | exact HB.out | apply below_alloc | apply pw_below_drewN | apply below_drew1 | refine below_set ?_ GE101.out | refine below_set ?_ GE102.out | refine below_set ?_ GE104.out | refine below_set ?_ GE110.out | refine below_set ?_ GE115.out | refine below_set ?_ GE116.out) | exact HB.out)) hb); clear BK101; clear BK102; clear BK104; clear BK110; clear BK115; clear BK116; clear HB; have BK101 := n0_; have BK102 := n1_; have BK104 := n2_; have BK110 := n3_; have BK115 := n4_; have BK116 := n5_; have HB := n6_; clear n0_ n1_ n2_ n3_ n4_ n5_ n6_; (try clear hb); (try clear hb2); (try clear hk); (try clear hi)))
                  go_roundg kj19
                  case measure => have := HK1.out; have := HK2.out; have := HJ19.out; omega
                  case rel => exact ⟨(true), (wrap64 (x23_2 + 1)), (x102000_2), (x102001_2), (x103000_2), (x103001_2), (by first | rfl | (simp; done) | (simp [*]; done)), (by first | rfl | (simp; done) | (simp [*]; done)), H', ⟨by have := HK1.out; have := HK2.out; have := HJ19.out; omega⟩, ⟨bkU BK101⟩, ⟨bkU BK102⟩, ⟨bkU BK104⟩, ⟨by repeat (first | (with_reducible first | exact HB.out | apply below_alloc | apply pw_below_drewN | apply below_drew1 | refine below_set ?_ GE101.out | refine below_set ?_ GE102.out | refine below_set ?_ GE104.out | refine below_set ?_ GE110.out | refine below_set ?_ GE115.out | refine below_set ?_ GE116.out) | exact HB.out)⟩⟩
                subst c118
                have H1 : (arm_slopes.l1 kj19 l0 true l0 (l0.length : Int) x14_1 y105 (y105.length : Int) (wrap64 (x23_2 + 1)) x102000_2 x102001_2 t113 t114 ((rd_T73 l0 x14_1).f0) ((rd_T73 l0 x14_1).f1) ((rd_T73 l0 x14_1).f2)) = some (r1, r2, r3, r4, r5) := by rw [if_pos rfl] at H; exact H
                clear H
                have H := H1
                clear H1
                have H' := Aside0.mk H
                clear H
                have hnb119 := NB116_101.out
                have hnc119 := NB101_116.out
                have hnb120 := NB116_102.out
                have hnc120 := NB102_116.out
                have hnb121 := NB116_104.out
                have hnc121 := NB104_116.out
                have hnb122 := NB116_110.out
                have hnc122 := NB110_116.out
                have hnb123 := NB116_115.out
                have hnc123 := NB115_116.out
                have hcz124_0 : wc.cell? ⟨gb116, 0, none⟩ = some (.int .i64 t113) := (blk_cell BK116.out 0).trans rfl
                have hcz124_1 : wc.cell? ⟨gb116, 1, none⟩ = some (.int .i64 t114) := (blk_cell BK116.out 1).trans rfl
                have hfz124_0 := blk_frozen BK116.out 0
                have hfz124_1 := blk_frozen BK116.out 1
                have hnb125 := NB102_101.out
                have hnc125 := NB101_102.out
                have hnb126 := NB102_104.out
                have hnc126 := NB104_102.out
                have hnb127 := NB102_110.out
                have hnc127 := NB110_102.out
                have hnb128 := NB102_115.out
                have hnc128 := NB115_102.out
                have hcz129_0 : wc.cell? ⟨gb102, 0, none⟩ = some (.int .i64 x103000_2) := (blk_cell BK102.out 0).trans rfl
                have hcz129_1 : wc.cell? ⟨gb102, 1, none⟩ = some (.int .i64 x103001_2) := (blk_cell BK102.out 1).trans rfl
                have hfz129_0 := blk_frozen BK102.out 0
                have hfz129_1 := blk_frozen BK102.out 1
                go_wp2_with (first | (go_at_call 56; (with_reducible refine (arm_less.calls t113 t114 x103000_2 x103001_2 true _ A117.out).mono ?_); rintro e w130 ⟨rfl, hb⟩; have n0_ := Aside0.mk (bkB BK101 hb); have n1_ := Aside0.mk (bkB BK102 hb); have n2_ := Aside0.mk (bkB BK104 hb); have n3_ := Aside0.mk (bkB BK110 hb); have n4_ := Aside0.mk (bkB BK115 hb); have n5_ := Aside0.mk (bkB BK116 hb); have n6_ := Aside0.mk (below_step (by repeat (first | (with_reducible first | exact HB.out | apply below_alloc | apply pw_below_drewN | apply below_drew1 | refine below_set ?_ GE101.out | refine below_set ?_ GE102.out | refine below_set ?_ GE104.out | refine below_set ?_ GE110.out | refine below_set ?_ GE115.out | refine below_set ?_ GE116.out) | exact HB.out)) hb); clear BK101; clear BK102; clear BK104; clear BK110; clear BK115; clear BK116; clear HB; have BK101 := n0_; have BK102 := n1_; have BK104 := n2_; have BK110 := n3_; have BK115 := n4_; have BK116 := n5_; have HB := n6_; clear n0_ n1_ n2_ n3_ n4_ n5_ n6_; (try clear hb); (try clear hb2); (try clear hk); (try clear hi); have hcz131_0 : w130.cell? ⟨gb116, 0, none⟩ = some (.int .i64 t113) := (blk_cell BK116.out 0).trans rfl; have hcz131_1 : w130.cell? ⟨gb116, 1, none⟩ = some (.int .i64 t114) := (blk_cell BK116.out 1).trans rfl; have hfz131_0 := blk_frozen BK116.out 0; have hfz131_1 := blk_frozen BK116.out 1; have hcz132_0 : w130.cell? ⟨gb102, 0, none⟩ = some (.int .i64 x103000_2) := (blk_cell BK102.out 0).trans rfl; have hcz132_1 : w130.cell? ⟨gb102, 1, none⟩ = some (.int .i64 x103001_2) := (blk_cell BK102.out 1).trans rfl; have hfz132_0 := blk_frozen BK102.out 0; have hfz132_1 := blk_frozen BK102.out 1))
                go_roundg kj19
                case measure => have := HK1.out; have := HK2.out; have := HJ19.out; omega
                case rel => exact ⟨(true), (wrap64 (x23_2 + 1)), (x102000_2), (x102001_2), (t113), (t114), (by first | rfl | (simp; done) | (simp [*]; done)), (by first | rfl | (simp; done) | (simp [*]; done)), H', ⟨by have := HK1.out; have := HK2.out; have := HJ19.out; omega⟩, ⟨by (with_reducible repeat (first | refine blk_drewN ?_ _ | refine blk_drew ?_ | refine blk_alloc ?_ _)); refine blk_far ?_ NB101_102.out _; (with_reducible repeat (first | refine blk_drewN ?_ _ | refine blk_drew ?_ | refine blk_alloc ?_ _)); refine blk_far ?_ NB101_102.out _; (with_reducible repeat (first | refine blk_drewN ?_ _ | refine blk_drew ?_ | refine blk_alloc ?_ _)); exact BK101.out⟩, ⟨by (with_reducible repeat (first | refine blk_drewN ?_ _ | refine blk_drew ?_ | refine blk_alloc ?_ _)); refine blk_put (cs := #[.int .i64 t113, .int .i64 x103001_2]) ?_ 1 _ rfl; (with_reducible repeat (first | refine blk_drewN ?_ _ | refine blk_drew ?_ | refine blk_alloc ?_ _)); refine blk_put (cs := #[.int .i64 x103000_2, .int .i64 x103001_2]) ?_ 0 _ rfl; (with_reducible repeat (first | refine blk_drewN ?_ _ | refine blk_drew ?_ | refine blk_alloc ?_ _)); exact BK102.out⟩, ⟨by (with_reducible repeat (first | refine blk_drewN ?_ _ | refine blk_drew ?_ | refine blk_alloc ?_ _)); refine blk_far ?_ NB104_102.out _; (with_reducible repeat (first | refine blk_drewN ?_ _ | refine blk_drew ?_ | refine blk_alloc ?_ _)); refine blk_far ?_ NB104_102.out _; (with_reducible repeat (first | refine blk_drewN ?_ _ | refine blk_drew ?_ | refine blk_alloc ?_ _)); exact BK104.out⟩, ⟨by repeat (first | (with_reducible first | exact HB.out | apply below_alloc | apply pw_below_drewN | apply below_drew1 | refine below_set ?_ GE101.out | refine below_set ?_ GE102.out | refine below_set ?_ GE104.out | refine below_set ?_ GE110.out | refine below_set ?_ GE115.out | refine below_set ?_ GE116.out) | exact HB.out)⟩⟩
              subst c54
              have H1 : (if x4_2 = true then ((arm_less.f t113 t114 x103000_2 x103001_2).bind fun t118 => (if t118 = true then (arm_slopes.l1 kj19 l0 true l0 (l0.length : Int) x14_1 y105 (y105.length : Int) (wrap64 (x23_2 + 1)) t111 t112 t113 t114 ((rd_T73 l0 x14_1).f0) ((rd_T73 l0 x14_1).f1) ((rd_T73 l0 x14_1).f2)) else (arm_slopes.l1 kj19 l0 true l0 (l0.length : Int) x14_1 y105 (y105.length : Int) (wrap64 (x23_2 + 1)) t111 t112 x103000_2 x103001_2 ((rd_T73 l0 x14_1).f0) ((rd_T73 l0 x14_1).f1) ((rd_T73 l0 x14_1).f2)))) else (arm_slopes.l1 kj19 l0 true l0 (l0.length : Int) x14_1 y105 (y105.length : Int) (wrap64 (x23_2 + 1)) t111 t112 t113 t114 ((rd_T73 l0 x14_1).f0) ((rd_T73 l0 x14_1).f1) ((rd_T73 l0 x14_1).f2))) = some (r1, r2, r3, r4, r5) := by rw [if_pos rfl] at H; exact H
              clear H
              have H := H1
              clear H1
              by_cases c55 : x4_2 = true
              rotate_left
              · replace c55 := Bool.eq_false_iff.mpr c55
                subst c55
                have H1 : (arm_slopes.l1 kj19 l0 true l0 (l0.length : Int) x14_1 y105 (y105.length : Int) (wrap64 (x23_2 + 1)) t111 t112 t113 t114 ((rd_T73 l0 x14_1).f0) ((rd_T73 l0 x14_1).f1) ((rd_T73 l0 x14_1).f2)) = some (r1, r2, r3, r4, r5) := by rw [if_neg (show ¬ (false = true) by decide)] at H; exact H
                clear H
                have H := H1
                clear H1
                have H' := Aside0.mk H
                clear H
                have hnb98 := NB115_101.out
                have hnc98 := NB101_115.out
                have hnb99 := NB115_102.out
                have hnc99 := NB102_115.out
                have hnb100 := NB115_104.out
                have hnc100 := NB104_115.out
                have hnb101 := NB115_110.out
                have hnc101 := NB110_115.out
                have hnb102 := NB115_116.out
                have hnc102 := NB116_115.out
                have hcz103_0 : wc.cell? ⟨gb115, 0, none⟩ = some (.int .i64 t111) := (blk_cell BK115.out 0).trans rfl
                have hcz103_1 : wc.cell? ⟨gb115, 1, none⟩ = some (.int .i64 t112) := (blk_cell BK115.out 1).trans rfl
                have hfz103_0 := blk_frozen BK115.out 0
                have hfz103_1 := blk_frozen BK115.out 1
                have hnb104 := NB101_102.out
                have hnc104 := NB102_101.out
                have hnb105 := NB101_104.out
                have hnc105 := NB104_101.out
                have hnb106 := NB101_110.out
                have hnc106 := NB110_101.out
                have hnb107 := NB101_116.out
                have hnc107 := NB116_101.out
                have hcz108_0 : wc.cell? ⟨gb101, 0, none⟩ = some (.int .i64 x102000_2) := (blk_cell BK101.out 0).trans rfl
                have hcz108_1 : wc.cell? ⟨gb101, 1, none⟩ = some (.int .i64 x102001_2) := (blk_cell BK101.out 1).trans rfl
                have hfz108_0 := blk_frozen BK101.out 0
                have hfz108_1 := blk_frozen BK101.out 1
                have hnb109 := NB116_102.out
                have hnc109 := NB102_116.out
                have hnb110 := NB116_104.out
                have hnc110 := NB104_116.out
                have hnb111 := NB116_110.out
                have hnc111 := NB110_116.out
                have hcz112_0 : wc.cell? ⟨gb116, 0, none⟩ = some (.int .i64 t113) := (blk_cell BK116.out 0).trans rfl
                have hcz112_1 : wc.cell? ⟨gb116, 1, none⟩ = some (.int .i64 t114) := (blk_cell BK116.out 1).trans rfl
                have hfz112_0 := blk_frozen BK116.out 0
                have hfz112_1 := blk_frozen BK116.out 1
                have hnb113 := NB102_104.out
                have hnc113 := NB104_102.out
                have hnb114 := NB102_110.out
                have hnc114 := NB110_102.out
                have hcz115_0 : wc.cell? ⟨gb102, 0, none⟩ = some (.int .i64 x103000_2) := (blk_cell BK102.out 0).trans rfl
                have hcz115_1 : wc.cell? ⟨gb102, 1, none⟩ = some (.int .i64 x103001_2) := (blk_cell BK102.out 1).trans rfl
                have hfz115_0 := blk_frozen BK102.out 0
                have hfz115_1 := blk_frozen BK102.out 1
                go_wp2
                go_roundg kj19
                case measure => have := HK1.out; have := HK2.out; have := HJ19.out; omega
                case rel => exact ⟨(true), (wrap64 (x23_2 + 1)), (t111), (t112), (t113), (t114), (by first | rfl | (simp; done) | (simp [*]; done)), (by first | rfl | (simp; done) | (simp [*]; done)), H', ⟨by have := HK1.out; have := HK2.out; have := HJ19.out; omega⟩, ⟨by (with_reducible repeat (first | refine blk_drewN ?_ _ | refine blk_drew ?_ | refine blk_alloc ?_ _)); refine blk_far ?_ NB101_102.out _; (with_reducible repeat (first | refine blk_drewN ?_ _ | refine blk_drew ?_ | refine blk_alloc ?_ _)); refine blk_far ?_ NB101_102.out _; (with_reducible repeat (first | refine blk_drewN ?_ _ | refine blk_drew ?_ | refine blk_alloc ?_ _)); refine blk_put (cs := #[.int .i64 t111, .int .i64 x102001_2]) ?_ 1 _ rfl; (with_reducible repeat (first | refine blk_drewN ?_ _ | refine blk_drew ?_ | refine blk_alloc ?_ _)); refine blk_put (cs := #[.int .i64 x102000_2, .int .i64 x102001_2]) ?_ 0 _ rfl; (with_reducible repeat (first | refine blk_drewN ?_ _ | refine blk_drew ?_ | refine blk_alloc ?_ _)); exact BK101.out⟩, ⟨by (with_reducible repeat (first | refine blk_drewN ?_ _ | refine blk_drew ?_ | refine blk_alloc ?_ _)); refine blk_put (cs := #[.int .i64 t113, .int .i64 x103001_2]) ?_ 1 _ rfl; (with_reducible repeat (first | refine blk_drewN ?_ _ | refine blk_drew ?_ | refine blk_alloc ?_ _)); refine blk_put (cs := #[.int .i64 x103000_2, .int .i64 x103001_2]) ?_ 0 _ rfl; (with_reducible repeat (first | refine blk_drewN ?_ _ | refine blk_drew ?_ | refine blk_alloc ?_ _)); refine blk_far ?_ NB102_101.out _; (with_reducible repeat (first | refine blk_drewN ?_ _ | refine blk_drew ?_ | refine blk_alloc ?_ _)); refine blk_far ?_ NB102_101.out _; (with_reducible repeat (first | refine blk_drewN ?_ _ | refine blk_drew ?_ | refine blk_alloc ?_ _)); exact BK102.out⟩, ⟨by (with_reducible repeat (first | refine blk_drewN ?_ _ | refine blk_drew ?_ | refine blk_alloc ?_ _)); refine blk_far ?_ NB104_102.out _; (with_reducible repeat (first | refine blk_drewN ?_ _ | refine blk_drew ?_ | refine blk_alloc ?_ _)); refine blk_far ?_ NB104_102.out _; (with_reducible repeat (first | refine blk_drewN ?_ _ | refine blk_drew ?_ | refine blk_alloc ?_ _)); refine blk_far ?_ NB104_101.out _; (with_reducible repeat (first | refine blk_drewN ?_ _ | refine blk_drew ?_ | refine blk_alloc ?_ _)); refine blk_far ?_ NB104_101.out _; (with_reducible repeat (first | refine blk_drewN ?_ _ | refine blk_drew ?_ | refine blk_alloc ?_ _)); exact BK104.out⟩, ⟨by repeat (first | (with_reducible first | exact HB.out | apply below_alloc | apply pw_below_drewN | apply below_drew1 | refine below_set ?_ GE101.out | refine below_set ?_ GE102.out | refine below_set ?_ GE104.out | refine below_set ?_ GE110.out | refine below_set ?_ GE115.out | refine below_set ?_ GE116.out) | exact HB.out)⟩⟩
              subst c55
              have H1 : ((arm_less.f t113 t114 x103000_2 x103001_2).bind fun t118 => (if t118 = true then (arm_slopes.l1 kj19 l0 true l0 (l0.length : Int) x14_1 y105 (y105.length : Int) (wrap64 (x23_2 + 1)) t111 t112 t113 t114 ((rd_T73 l0 x14_1).f0) ((rd_T73 l0 x14_1).f1) ((rd_T73 l0 x14_1).f2)) else (arm_slopes.l1 kj19 l0 true l0 (l0.length : Int) x14_1 y105 (y105.length : Int) (wrap64 (x23_2 + 1)) t111 t112 x103000_2 x103001_2 ((rd_T73 l0 x14_1).f0) ((rd_T73 l0 x14_1).f1) ((rd_T73 l0 x14_1).f2)))) = some (r1, r2, r3, r4, r5) := by rw [if_pos rfl] at H; exact H
              clear H
              have H := H1
              clear H1
              replace H := Option.bind_eq_some_iff.mp H
              obtain ⟨t118, A560, H⟩ := H
              replace H : (if t118 = true then (arm_slopes.l1 kj19 l0 true l0 (l0.length : Int) x14_1 y105 (y105.length : Int) (wrap64 (x23_2 + 1)) t111 t112 t113 t114 ((rd_T73 l0 x14_1).f0) ((rd_T73 l0 x14_1).f1) ((rd_T73 l0 x14_1).f2)) else (arm_slopes.l1 kj19 l0 true l0 (l0.length : Int) x14_1 y105 (y105.length : Int) (wrap64 (x23_2 + 1)) t111 t112 x103000_2 x103001_2 ((rd_T73 l0 x14_1).f0) ((rd_T73 l0 x14_1).f1) ((rd_T73 l0 x14_1).f2))) = some (r1, r2, r3, r4, r5) := H
              have A56 := Aside0.mk A560
              clear A560
              by_cases c57 : t118 = true
              rotate_left
              · replace c57 := Bool.eq_false_iff.mpr c57
                subst c57
                have H1 : (arm_slopes.l1 kj19 l0 true l0 (l0.length : Int) x14_1 y105 (y105.length : Int) (wrap64 (x23_2 + 1)) t111 t112 x103000_2 x103001_2 ((rd_T73 l0 x14_1).f0) ((rd_T73 l0 x14_1).f1) ((rd_T73 l0 x14_1).f2)) = some (r1, r2, r3, r4, r5) := by rw [if_neg (show ¬ (false = true) by decide)] at H; exact H
                clear H
                have H := H1
                clear H1
                have H' := Aside0.mk H
                clear H
                have hnb79 := NB115_101.out
                have hnc79 := NB101_115.out
                have hnb80 := NB115_102.out
                have hnc80 := NB102_115.out
                have hnb81 := NB115_104.out
                have hnc81 := NB104_115.out
                have hnb82 := NB115_110.out
                have hnc82 := NB110_115.out
                have hnb83 := NB115_116.out
                have hnc83 := NB116_115.out
                have hcz84_0 : wc.cell? ⟨gb115, 0, none⟩ = some (.int .i64 t111) := (blk_cell BK115.out 0).trans rfl
                have hcz84_1 : wc.cell? ⟨gb115, 1, none⟩ = some (.int .i64 t112) := (blk_cell BK115.out 1).trans rfl
                have hfz84_0 := blk_frozen BK115.out 0
                have hfz84_1 := blk_frozen BK115.out 1
                have hnb85 := NB101_102.out
                have hnc85 := NB102_101.out
                have hnb86 := NB101_104.out
                have hnc86 := NB104_101.out
                have hnb87 := NB101_110.out
                have hnc87 := NB110_101.out
                have hnb88 := NB101_116.out
                have hnc88 := NB116_101.out
                have hcz89_0 : wc.cell? ⟨gb101, 0, none⟩ = some (.int .i64 x102000_2) := (blk_cell BK101.out 0).trans rfl
                have hcz89_1 : wc.cell? ⟨gb101, 1, none⟩ = some (.int .i64 x102001_2) := (blk_cell BK101.out 1).trans rfl
                have hfz89_0 := blk_frozen BK101.out 0
                have hfz89_1 := blk_frozen BK101.out 1
                have hnb90 := NB116_102.out
                have hnc90 := NB102_116.out
                have hnb91 := NB116_104.out
                have hnc91 := NB104_116.out
                have hnb92 := NB116_110.out
                have hnc92 := NB110_116.out
                have hcz93_0 : wc.cell? ⟨gb116, 0, none⟩ = some (.int .i64 t113) := (blk_cell BK116.out 0).trans rfl
                have hcz93_1 : wc.cell? ⟨gb116, 1, none⟩ = some (.int .i64 t114) := (blk_cell BK116.out 1).trans rfl
                have hfz93_0 := blk_frozen BK116.out 0
                have hfz93_1 := blk_frozen BK116.out 1
                have hnb94 := NB102_104.out
                have hnc94 := NB104_102.out
                have hnb95 := NB102_110.out
                have hnc95 := NB110_102.out
                have hcz96_0 : wc.cell? ⟨gb102, 0, none⟩ = some (.int .i64 x103000_2) := (blk_cell BK102.out 0).trans rfl
                have hcz96_1 : wc.cell? ⟨gb102, 1, none⟩ = some (.int .i64 x103001_2) := (blk_cell BK102.out 1).trans rfl
                have hfz96_0 := blk_frozen BK102.out 0
                have hfz96_1 := blk_frozen BK102.out 1
                go_wp2_with (first | (go_at_call 56; (with_reducible refine (arm_less.calls t113 t114 x103000_2 x103001_2 false _ A56.out).mono ?_); rintro e w97 ⟨rfl, hb⟩; have n0_ := Aside0.mk (blk_below (g := gb101) (o := .cells #[.int .i64 t111, .int .i64 t112] 24 (0, 0)) (by (with_reducible repeat (first | refine blk_drewN ?_ _ | refine blk_drew ?_ | refine blk_alloc ?_ _)); refine blk_put (cs := #[.int .i64 t111, .int .i64 x102001_2]) ?_ 1 _ rfl; (with_reducible repeat (first | refine blk_drewN ?_ _ | refine blk_drew ?_ | refine blk_alloc ?_ _)); refine blk_put (cs := #[.int .i64 x102000_2, .int .i64 x102001_2]) ?_ 0 _ rfl; (with_reducible repeat (first | refine blk_drewN ?_ _ | refine blk_drew ?_ | refine blk_alloc ?_ _)); exact BK101.out) hb); have n1_ := Aside0.mk (blk_below (g := gb102) (o := .cells #[.int .i64 x103000_2, .int .i64 x103001_2] 24 (0, 0)) (bkF2 BK102 NB102_101) hb); have n2_ := Aside0.mk (blk_below (g := gb104) (o := .cells #[.int .i64 ((rd_T73 l0 x14_1).f0), .int .i64 ((rd_T73 l0 x14_1).f1), .int .i64 ((rd_T73 l0 x14_1).f2)] 73 (0, 0)) (bkF2 BK104 NB104_101) hb); have n3_ := Aside0.mk (blk_below (g := gb110) (o := .cells #[.int .i64 ((rd_T73 y105 x23_2).f0), .int .i64 ((rd_T73 y105 x23_2).f1), .int .i64 ((rd_T73 y105 x23_2).f2)] 73 (0, 0)) (bkF2 BK110 NB110_101) hb); have n4_ := Aside0.mk (blk_below (g := gb115) (o := .cells #[.int .i64 t111, .int .i64 t112] 24 (0, 0)) (bkF2 BK115 NB115_101) hb); have n5_ := Aside0.mk (blk_below (g := gb116) (o := .cells #[.int .i64 t113, .int .i64 t114] 24 (0, 0)) (bkF2 BK116 NB116_101) hb); have n6_ := Aside0.mk (below_step (by repeat (first | (with_reducible first | exact HB.out | apply below_alloc | apply pw_below_drewN | apply below_drew1 | refine below_set ?_ GE101.out | refine below_set ?_ GE102.out | refine below_set ?_ GE104.out | refine below_set ?_ GE110.out | refine below_set ?_ GE115.out | refine below_set ?_ GE116.out) | exact HB.out)) hb); clear BK101; clear BK102; clear BK104; clear BK110; clear BK115; clear BK116; clear HB; have BK101 := n0_; have BK102 := n1_; have BK104 := n2_; have BK110 := n3_; have BK115 := n4_; have BK116 := n5_; have HB := n6_; clear n0_ n1_ n2_ n3_ n4_ n5_ n6_; (try clear hb); (try clear hb2); (try clear hk); (try clear hi)))
                go_roundg kj19
                case measure => have := HK1.out; have := HK2.out; have := HJ19.out; omega
                case rel => exact ⟨(true), (wrap64 (x23_2 + 1)), (t111), (t112), (x103000_2), (x103001_2), (by first | rfl | (simp; done) | (simp [*]; done)), (by first | rfl | (simp; done) | (simp [*]; done)), H', ⟨by have := HK1.out; have := HK2.out; have := HJ19.out; omega⟩, ⟨bkU BK101⟩, ⟨bkU BK102⟩, ⟨bkU BK104⟩, ⟨by repeat (first | (with_reducible first | exact HB.out | apply below_alloc | apply pw_below_drewN | apply below_drew1 | refine below_set ?_ GE101.out | refine below_set ?_ GE102.out | refine below_set ?_ GE104.out | refine below_set ?_ GE110.out | refine below_set ?_ GE115.out | refine below_set ?_ GE116.out) | exact HB.out)⟩⟩
              subst c57
              have H1 : (arm_slopes.l1 kj19 l0 true l0 (l0.length : Int) x14_1 y105 (y105.length : Int) (wrap64 (x23_2 + 1)) t111 t112 t113 t114 ((rd_T73 l0 x14_1).f0) ((rd_T73 l0 x14_1).f1) ((rd_T73 l0 x14_1).f2)) = some (r1, r2, r3, r4, r5) := by rw [if_pos rfl] at H; exact H
              clear H
              have H := H1
              clear H1
              have H' := Aside0.mk H
              clear H
              have hnb58 := NB115_101.out
              have hnc58 := NB101_115.out
              have hnb59 := NB115_102.out
              have hnc59 := NB102_115.out
              have hnb60 := NB115_104.out
              have hnc60 := NB104_115.out
              have hnb61 := NB115_110.out
              have hnc61 := NB110_115.out
              have hnb62 := NB115_116.out
              have hnc62 := NB116_115.out
              have hcz63_0 : wc.cell? ⟨gb115, 0, none⟩ = some (.int .i64 t111) := (blk_cell BK115.out 0).trans rfl
              have hcz63_1 : wc.cell? ⟨gb115, 1, none⟩ = some (.int .i64 t112) := (blk_cell BK115.out 1).trans rfl
              have hfz63_0 := blk_frozen BK115.out 0
              have hfz63_1 := blk_frozen BK115.out 1
              have hnb64 := NB101_102.out
              have hnc64 := NB102_101.out
              have hnb65 := NB101_104.out
              have hnc65 := NB104_101.out
              have hnb66 := NB101_110.out
              have hnc66 := NB110_101.out
              have hnb67 := NB101_116.out
              have hnc67 := NB116_101.out
              have hcz68_0 : wc.cell? ⟨gb101, 0, none⟩ = some (.int .i64 x102000_2) := (blk_cell BK101.out 0).trans rfl
              have hcz68_1 : wc.cell? ⟨gb101, 1, none⟩ = some (.int .i64 x102001_2) := (blk_cell BK101.out 1).trans rfl
              have hfz68_0 := blk_frozen BK101.out 0
              have hfz68_1 := blk_frozen BK101.out 1
              have hnb69 := NB116_102.out
              have hnc69 := NB102_116.out
              have hnb70 := NB116_104.out
              have hnc70 := NB104_116.out
              have hnb71 := NB116_110.out
              have hnc71 := NB110_116.out
              have hcz72_0 : wc.cell? ⟨gb116, 0, none⟩ = some (.int .i64 t113) := (blk_cell BK116.out 0).trans rfl
              have hcz72_1 : wc.cell? ⟨gb116, 1, none⟩ = some (.int .i64 t114) := (blk_cell BK116.out 1).trans rfl
              have hfz72_0 := blk_frozen BK116.out 0
              have hfz72_1 := blk_frozen BK116.out 1
              have hnb73 := NB102_104.out
              have hnc73 := NB104_102.out
              have hnb74 := NB102_110.out
              have hnc74 := NB110_102.out
              have hcz75_0 : wc.cell? ⟨gb102, 0, none⟩ = some (.int .i64 x103000_2) := (blk_cell BK102.out 0).trans rfl
              have hcz75_1 : wc.cell? ⟨gb102, 1, none⟩ = some (.int .i64 x103001_2) := (blk_cell BK102.out 1).trans rfl
              have hfz75_0 := blk_frozen BK102.out 0
              have hfz75_1 := blk_frozen BK102.out 1
              go_wp2_with (first | (go_at_call 56; (with_reducible refine (arm_less.calls t113 t114 x103000_2 x103001_2 true _ A56.out).mono ?_); rintro e w76 ⟨rfl, hb⟩; have n0_ := Aside0.mk (blk_below (g := gb101) (o := .cells #[.int .i64 t111, .int .i64 t112] 24 (0, 0)) (by (with_reducible repeat (first | refine blk_drewN ?_ _ | refine blk_drew ?_ | refine blk_alloc ?_ _)); refine blk_put (cs := #[.int .i64 t111, .int .i64 x102001_2]) ?_ 1 _ rfl; (with_reducible repeat (first | refine blk_drewN ?_ _ | refine blk_drew ?_ | refine blk_alloc ?_ _)); refine blk_put (cs := #[.int .i64 x102000_2, .int .i64 x102001_2]) ?_ 0 _ rfl; (with_reducible repeat (first | refine blk_drewN ?_ _ | refine blk_drew ?_ | refine blk_alloc ?_ _)); exact BK101.out) hb); have n1_ := Aside0.mk (blk_below (g := gb102) (o := .cells #[.int .i64 x103000_2, .int .i64 x103001_2] 24 (0, 0)) (bkF2 BK102 NB102_101) hb); have n2_ := Aside0.mk (blk_below (g := gb104) (o := .cells #[.int .i64 ((rd_T73 l0 x14_1).f0), .int .i64 ((rd_T73 l0 x14_1).f1), .int .i64 ((rd_T73 l0 x14_1).f2)] 73 (0, 0)) (bkF2 BK104 NB104_101) hb); have n3_ := Aside0.mk (blk_below (g := gb110) (o := .cells #[.int .i64 ((rd_T73 y105 x23_2).f0), .int .i64 ((rd_T73 y105 x23_2).f1), .int .i64 ((rd_T73 y105 x23_2).f2)] 73 (0, 0)) (bkF2 BK110 NB110_101) hb); have n4_ := Aside0.mk (blk_below (g := gb115) (o := .cells #[.int .i64 t111, .int .i64 t112] 24 (0, 0)) (bkF2 BK115 NB115_101) hb); have n5_ := Aside0.mk (blk_below (g := gb116) (o := .cells #[.int .i64 t113, .int .i64 t114] 24 (0, 0)) (bkF2 BK116 NB116_101) hb); have n6_ := Aside0.mk (below_step (by repeat (first | (with_reducible first | exact HB.out | apply below_alloc | apply pw_below_drewN | apply below_drew1 | refine below_set ?_ GE101.out | refine below_set ?_ GE102.out | refine below_set ?_ GE104.out | refine below_set ?_ GE110.out | refine below_set ?_ GE115.out | refine below_set ?_ GE116.out) | exact HB.out)) hb); clear BK101; clear BK102; clear BK104; clear BK110; clear BK115; clear BK116; clear HB; have BK101 := n0_; have BK102 := n1_; have BK104 := n2_; have BK110 := n3_; have BK115 := n4_; have BK116 := n5_; have HB := n6_; clear n0_ n1_ n2_ n3_ n4_ n5_ n6_; (try clear hb); (try clear hb2); (try clear hk); (try clear hi); have hcz77_0 : w76.cell? ⟨gb116, 0, none⟩ = some (.int .i64 t113) := (blk_cell BK116.out 0).trans rfl; have hcz77_1 : w76.cell? ⟨gb116, 1, none⟩ = some (.int .i64 t114) := (blk_cell BK116.out 1).trans rfl; have hfz77_0 := blk_frozen BK116.out 0; have hfz77_1 := blk_frozen BK116.out 1; have hcz78_0 : w76.cell? ⟨gb102, 0, none⟩ = some (.int .i64 x103000_2) := (blk_cell BK102.out 0).trans rfl; have hcz78_1 : w76.cell? ⟨gb102, 1, none⟩ = some (.int .i64 x103001_2) := (blk_cell BK102.out 1).trans rfl; have hfz78_0 := blk_frozen BK102.out 0; have hfz78_1 := blk_frozen BK102.out 1))
              go_roundg kj19
              case measure => have := HK1.out; have := HK2.out; have := HJ19.out; omega
              case rel => exact ⟨(true), (wrap64 (x23_2 + 1)), (t111), (t112), (t113), (t114), (by first | rfl | (simp; done) | (simp [*]; done)), (by first | rfl | (simp; done) | (simp [*]; done)), H', ⟨by have := HK1.out; have := HK2.out; have := HJ19.out; omega⟩, ⟨by (with_reducible repeat (first | refine blk_drewN ?_ _ | refine blk_drew ?_ | refine blk_alloc ?_ _)); refine blk_far ?_ NB101_102.out _; (with_reducible repeat (first | refine blk_drewN ?_ _ | refine blk_drew ?_ | refine blk_alloc ?_ _)); refine blk_far ?_ NB101_102.out _; (with_reducible repeat (first | refine blk_drewN ?_ _ | refine blk_drew ?_ | refine blk_alloc ?_ _)); exact BK101.out⟩, ⟨by (with_reducible repeat (first | refine blk_drewN ?_ _ | refine blk_drew ?_ | refine blk_alloc ?_ _)); refine blk_put (cs := #[.int .i64 t113, .int .i64 x103001_2]) ?_ 1 _ rfl; (with_reducible repeat (first | refine blk_drewN ?_ _ | refine blk_drew ?_ | refine blk_alloc ?_ _)); refine blk_put (cs := #[.int .i64 x103000_2, .int .i64 x103001_2]) ?_ 0 _ rfl; (with_reducible repeat (first | refine blk_drewN ?_ _ | refine blk_drew ?_ | refine blk_alloc ?_ _)); exact BK102.out⟩, ⟨by (with_reducible repeat (first | refine blk_drewN ?_ _ | refine blk_drew ?_ | refine blk_alloc ?_ _)); refine blk_far ?_ NB104_102.out _; (with_reducible repeat (first | refine blk_drewN ?_ _ | refine blk_drew ?_ | refine blk_alloc ?_ _)); refine blk_far ?_ NB104_102.out _; (with_reducible repeat (first | refine blk_drewN ?_ _ | refine blk_drew ?_ | refine blk_alloc ?_ _)); exact BK104.out⟩, ⟨by repeat (first | (with_reducible first | exact HB.out | apply below_alloc | apply pw_below_drewN | apply below_drew1 | refine below_set ?_ GE101.out | refine below_set ?_ GE102.out | refine below_set ?_ GE104.out | refine below_set ?_ GE110.out | refine below_set ?_ GE115.out | refine below_set ?_ GE116.out) | exact HB.out)⟩⟩

end Go.Proofs.Ytiapmkndgalgnaa.G
