-- Written by this session's driver (wip/tools/printmore.py) over the kit's print, with hand-written parts.
import Derived.Test.YtiapmkndgalgnaaGBase
import Derived.Test.YtiapmkndgalgnaaGF64
import Derived.Test.YtiapmkndgalgnaaGF73
import Derived.Test.YtiapmkndgalgnaaGF74
import Derived.Test.YtiapmkndgalgnaaGF75
namespace Go.Proofs.Ytiapmkndgalgnaa.G
open Go.RowKit Go.Proofs.YtiapmkndgalgnaaW.PrintWords Go.Proofs.YtiapmkndgalgnaaW.PrintLast Go.Proofs.YtiapmkndgalgnaaW.PrintMore
attribute [local go_sem] max2_int min2_int max_two min_two max_three min_three max_four min_four   -- for this text's walks alone
set_option linter.unusedVariables false
set_option linter.unusedSimpArgs false

/-! ### dropperref03_slopes: function 57 -/
mutual
def dropperref03_slopes.l0 : Nat → List (S73) → Bool → Int → Int → Int → Int → Int → Option (Int × Int × Int × Int × Bool)
 | 0, _, _, _, _, _, _, _ => none
 | k + 1, x0, x7, x8, x104000, x104001, x105000, x105001 => if x8 < (x0.length : Int) then (dropperref03_slopes.l1 k x0 x7 x8 (wrap64 (x8 + 1)) x104000 x104001 x105000 x105001) else (some (x104000, x104001, x105000, x105001, x7))
def dropperref03_slopes.l1 : Nat → List (S73) → Bool → Int → Int → Int → Int → Int → Int → Option (Int × Int × Int × Int × Bool)
 | 0, _, _, _, _, _, _, _, _ => none
 | k + 1, x0, x7, x8, x9, x104000, x104001, x105000, x105001 => if x9 < (x0.length : Int) then (dropperref03_slopes.l2 k x0 x7 x8 x9 0 x104000 x104001 x105000 x105001) else (dropperref03_slopes.l0 k x0 x7 (wrap64 (x8 + 1)) x104000 x104001 x105000 x105001)
def dropperref03_slopes.l2 : Nat → List (S73) → Bool → Int → Int → Int → Int → Int → Int → Int → Option (Int × Int × Int × Int × Bool)
 | 0, _, _, _, _, _, _, _, _, _ => none
 | k + 1, x0, x7, x8, x9, x10, x104000, x104001, x105000, x105001 => if x10 < 4 then (if 0 ≤ x8 then (if x8 < (x0.length : Int) then ((dropperref03_corner.f ((rd_T73 x0 x8).f0) ((rd_T73 x0 x8).f1) ((rd_T73 x0 x8).f2) ((Int.tmod x10 2) == 1)).bind fun t106 => (if 0 ≤ x9 then (if x9 < (x0.length : Int) then ((dropperref03_corner.f ((rd_T73 x0 x9).f0) ((rd_T73 x0 x9).f1) ((rd_T73 x0 x9).f2) ((wrap64 (Int.tdiv x10 2)) == 1)).bind fun t108 => ((dropperref03_through.f k x0 ((rd_T73 x0 x8).f0) t106 ((rd_T73 x0 x9).f0) t108).bind fun t111 => (if t111 = true then ((dropperref03_ratio.f k (wrap64 (t108 - t106)) (wrap64 (((rd_T73 x0 x9).f0) - ((rd_T73 x0 x8).f0)))).bind fun bt114 => (if x7 = true then ((dropperref03_less.f bt114.1 bt114.2 x104000 x104001).bind fun t117 => (dropperref03_slopes.j3 k x0 x7 x8 x9 x10 t117 x104000 x104001 x105000 x105001 bt114.1 bt114.2)) else (dropperref03_slopes.j3 k x0 x7 x8 x9 x10 true x104000 x104001 x105000 x105001 bt114.1 bt114.2))) else (dropperref03_slopes.l2 k x0 x7 x8 x9 (wrap64 (x10 + 1)) x104000 x104001 x105000 x105001)))) else (none)) else (none))) else (none)) else (none)) else (dropperref03_slopes.l1 k x0 x7 x8 (wrap64 (x9 + 1)) x104000 x104001 x105000 x105001)
def dropperref03_slopes.j3 : Nat → List (S73) → Bool → Int → Int → Int → Bool → Int → Int → Int → Int → Int → Int → Option (Int × Int × Int × Int × Bool)
 | 0, _, _, _, _, _, _, _, _, _, _, _, _ => none
 | k + 1, x0, x7, x8, x9, x10, x84, x104000, x104001, x105000, x105001, x117000, x117001 => if x84 = true then (if x7 = true then ((dropperref03_less.f x105000 x105001 x117000 x117001).bind fun t118 => (if t118 = true then (dropperref03_slopes.l2 k x0 true x8 x9 (wrap64 (x10 + 1)) x117000 x117001 x117000 x117001) else (dropperref03_slopes.l2 k x0 true x8 x9 (wrap64 (x10 + 1)) x117000 x117001 x105000 x105001))) else (dropperref03_slopes.l2 k x0 true x8 x9 (wrap64 (x10 + 1)) x117000 x117001 x117000 x117001)) else (if x7 = true then ((dropperref03_less.f x105000 x105001 x117000 x117001).bind fun t119 => (if t119 = true then (dropperref03_slopes.l2 k x0 true x8 x9 (wrap64 (x10 + 1)) x104000 x104001 x117000 x117001) else (dropperref03_slopes.l2 k x0 true x8 x9 (wrap64 (x10 + 1)) x104000 x104001 x105000 x105001))) else (dropperref03_slopes.l2 k x0 true x8 x9 (wrap64 (x10 + 1)) x104000 x104001 x117000 x117001))
end
def dropperref03_slopes.f (k : Nat) (l0 : List (S73)) : Option (Int × Int × Int × Int × Bool) := dropperref03_slopes.l0 k l0 false 0 0 0 0 0
theorem dropperref03_slopes.mono_l : ∀ k, (∀ y0 y1 y2 y3 y4 y5 y6, LeO (dropperref03_slopes.l0 k y0 y1 y2 y3 y4 y5 y6) (dropperref03_slopes.l0 (k + 1) y0 y1 y2 y3 y4 y5 y6)) ∧ (∀ y0 y1 y2 y3 y4 y5 y6 y7, LeO (dropperref03_slopes.l1 k y0 y1 y2 y3 y4 y5 y6 y7) (dropperref03_slopes.l1 (k + 1) y0 y1 y2 y3 y4 y5 y6 y7)) ∧ (∀ y0 y1 y2 y3 y4 y5 y6 y7 y8, LeO (dropperref03_slopes.l2 k y0 y1 y2 y3 y4 y5 y6 y7 y8) (dropperref03_slopes.l2 (k + 1) y0 y1 y2 y3 y4 y5 y6 y7 y8)) ∧ (∀ y0 y1 y2 y3 y4 y5 y6 y7 y8 y9 y10 y11, LeO (dropperref03_slopes.j3 k y0 y1 y2 y3 y4 y5 y6 y7 y8 y9 y10 y11) (dropperref03_slopes.j3 (k + 1) y0 y1 y2 y3 y4 y5 y6 y7 y8 y9 y10 y11))
 | 0 => ⟨fun _ _ _ _ _ _ _ r h => by simp [dropperref03_slopes.l0] at h, fun _ _ _ _ _ _ _ _ r h => by simp [dropperref03_slopes.l1] at h, fun _ _ _ _ _ _ _ _ _ r h => by simp [dropperref03_slopes.l2] at h, fun _ _ _ _ _ _ _ _ _ _ _ _ r h => by simp [dropperref03_slopes.j3] at h⟩
 | k + 1 => by
  obtain ⟨ih0, ih1, ih2, ih3⟩ := dropperref03_slopes.mono_l k
  refine ⟨?_, ?_, ?_, ?_⟩
  ·intro y0 y1 y2 y3 y4 y5 y6
   unfold dropperref03_slopes.l0
   repeat' first
   | (with_reducible exact ih0 _ _ _ _ _ _ _)
   | (with_reducible exact ih1 _ _ _ _ _ _ _ _)
   | (with_reducible exact ih2 _ _ _ _ _ _ _ _ _)
   | (with_reducible exact ih3 _ _ _ _ _ _ _ _ _ _ _ _)
   | (with_reducible exact dropperref03_ratio.mono _ _ _)
   | (with_reducible exact dropperref03_through.mono _ _ _ _ _ _)
   | (with_reducible exact LeO.refl _)
   | (with_reducible exact LeO.none _)
   | (with_reducible refine LeO.ite ?_ ?_)
   | (with_reducible refine LeO.bind ?_ (fun _ => ?_))
   | exact ih0 _ _ _ _ _ _ _
   | exact ih1 _ _ _ _ _ _ _ _
   | exact ih2 _ _ _ _ _ _ _ _ _
   | exact ih3 _ _ _ _ _ _ _ _ _ _ _ _
   | exact dropperref03_ratio.mono _ _ _
   | exact dropperref03_through.mono _ _ _ _ _ _
   | exact LeO.none _
   | refine LeO.ite ?_ ?_
   | refine LeO.bind ?_ (fun _ => ?_)
  ·intro y0 y1 y2 y3 y4 y5 y6 y7
   unfold dropperref03_slopes.l1
   repeat' first
   | (with_reducible exact ih0 _ _ _ _ _ _ _)
   | (with_reducible exact ih1 _ _ _ _ _ _ _ _)
   | (with_reducible exact ih2 _ _ _ _ _ _ _ _ _)
   | (with_reducible exact ih3 _ _ _ _ _ _ _ _ _ _ _ _)
   | (with_reducible exact dropperref03_ratio.mono _ _ _)
   | (with_reducible exact dropperref03_through.mono _ _ _ _ _ _)
   | (with_reducible exact LeO.refl _)
   | (with_reducible exact LeO.none _)
   | (with_reducible refine LeO.ite ?_ ?_)
   | (with_reducible refine LeO.bind ?_ (fun _ => ?_))
   | exact ih0 _ _ _ _ _ _ _
   | exact ih1 _ _ _ _ _ _ _ _
   | exact ih2 _ _ _ _ _ _ _ _ _
   | exact ih3 _ _ _ _ _ _ _ _ _ _ _ _
   | exact dropperref03_ratio.mono _ _ _
   | exact dropperref03_through.mono _ _ _ _ _ _
   | exact LeO.none _
   | refine LeO.ite ?_ ?_
   | refine LeO.bind ?_ (fun _ => ?_)
  ·intro y0 y1 y2 y3 y4 y5 y6 y7 y8
   unfold dropperref03_slopes.l2
   repeat' first
   | (with_reducible exact ih0 _ _ _ _ _ _ _)
   | (with_reducible exact ih1 _ _ _ _ _ _ _ _)
   | (with_reducible exact ih2 _ _ _ _ _ _ _ _ _)
   | (with_reducible exact ih3 _ _ _ _ _ _ _ _ _ _ _ _)
   | (with_reducible exact dropperref03_ratio.mono _ _ _)
   | (with_reducible exact dropperref03_through.mono _ _ _ _ _ _)
   | (with_reducible exact LeO.refl _)
   | (with_reducible exact LeO.none _)
   | (with_reducible refine LeO.ite ?_ ?_)
   | (with_reducible refine LeO.bind ?_ (fun _ => ?_))
   | exact ih0 _ _ _ _ _ _ _
   | exact ih1 _ _ _ _ _ _ _ _
   | exact ih2 _ _ _ _ _ _ _ _ _
   | exact ih3 _ _ _ _ _ _ _ _ _ _ _ _
   | exact dropperref03_ratio.mono _ _ _
   | exact dropperref03_through.mono _ _ _ _ _ _
   | exact LeO.none _
   | refine LeO.ite ?_ ?_
   | refine LeO.bind ?_ (fun _ => ?_)
  ·intro y0 y1 y2 y3 y4 y5 y6 y7 y8 y9 y10 y11
   unfold dropperref03_slopes.j3
   repeat' first
   | (with_reducible exact ih0 _ _ _ _ _ _ _)
   | (with_reducible exact ih1 _ _ _ _ _ _ _ _)
   | (with_reducible exact ih2 _ _ _ _ _ _ _ _ _)
   | (with_reducible exact ih3 _ _ _ _ _ _ _ _ _ _ _ _)
   | (with_reducible exact dropperref03_ratio.mono _ _ _)
   | (with_reducible exact dropperref03_through.mono _ _ _ _ _ _)
   | (with_reducible exact LeO.refl _)
   | (with_reducible exact LeO.none _)
   | (with_reducible refine LeO.ite ?_ ?_)
   | (with_reducible refine LeO.bind ?_ (fun _ => ?_))
   | exact ih0 _ _ _ _ _ _ _
   | exact ih1 _ _ _ _ _ _ _ _
   | exact ih2 _ _ _ _ _ _ _ _ _
   | exact ih3 _ _ _ _ _ _ _ _ _ _ _ _
   | exact dropperref03_ratio.mono _ _ _
   | exact dropperref03_through.mono _ _ _ _ _ _
   | exact LeO.none _
   | refine LeO.ite ?_ ?_
   | refine LeO.bind ?_ (fun _ => ?_)
theorem dropperref03_slopes.mono : ∀ a0 k, LeO (dropperref03_slopes.f k a0) (dropperref03_slopes.f (k + 1) a0) := by
 intro a0 k
 obtain ⟨ih0, ih1, ih2, ih3⟩ := dropperref03_slopes.mono_l k
 unfold dropperref03_slopes.f
 repeat' first
   | (with_reducible exact ih0 _ _ _ _ _ _ _)
   | (with_reducible exact ih1 _ _ _ _ _ _ _ _)
   | (with_reducible exact ih2 _ _ _ _ _ _ _ _ _)
   | (with_reducible exact ih3 _ _ _ _ _ _ _ _ _ _ _ _)
   | (with_reducible exact dropperref03_ratio.mono _ _ _)
   | (with_reducible exact dropperref03_through.mono _ _ _ _ _ _)
   | (with_reducible exact LeO.refl _)
   | (with_reducible exact LeO.none _)
   | (with_reducible refine LeO.ite ?_ ?_)
   | (with_reducible refine LeO.bind ?_ (fun _ => ?_))
   | exact ih0 _ _ _ _ _ _ _
   | exact ih1 _ _ _ _ _ _ _ _
   | exact ih2 _ _ _ _ _ _ _ _ _
   | exact ih3 _ _ _ _ _ _ _ _ _ _ _ _
   | exact dropperref03_ratio.mono _ _ _
   | exact dropperref03_through.mono _ _ _ _ _ _
   | exact LeO.none _
   | refine LeO.ite ?_ ?_
   | refine LeO.bind ?_ (fun _ => ?_)
def dropperref03_slopes.T12 : Bool × List (List Nat × List Nat) := (true, [([], []), ([], []), ([0, 1], [0, 1]), ([2], [2]), ([], []), ([4], [4]), ([5], [5]), ([3, 6], [3, 6]), ([], []), ([], []), ([8, 9], [8, 9]), ([10], [10]), ([], []), ([12], [12]), ([13], [13]), ([11, 14, 7], [11, 14]), ([7, 15, 0, 1, 2, 3, 4, 5, 6, 7], [7]), ([15, 16, 0, 1, 2, 3, 4, 5, 6, 7, 8, 9, 10, 11, 12, 13, 14, 15, 16], [15])])
def dropperref03_slopes.B12 : List Nat := [0, 0, 3, 7, 0, 16, 48, 127, 0, 0, 768, 1792, 0, 4096, 12288, 32767, 65535, 131071]
theorem dropperref03_slopes.tab12 : rtab .any (opsOf Try.f57 12) = dropperref03_slopes.T12 := by kernel_rfl
theorem dropperref03_slopes.bits12 : waitsOk dropperref03_slopes.T12.2 dropperref03_slopes.B12 = true := by kernel_rfl
def dropperref03_slopes.T13 : Bool × List (List Nat × List Nat) := (true, [([], []), ([], []), ([], []), ([1, 2], [1, 2]), ([3], [3]), ([4], [4]), ([], []), ([], []), ([], []), ([7, 8], [7, 8]), ([9], [9]), ([10], [10]), ([], []), ([0, 5, 6, 11, 12], [0, 5, 6, 11, 12]), ([13], [13])])
def dropperref03_slopes.B13 : List Nat := [0, 0, 0, 6, 14, 30, 0, 0, 0, 384, 896, 1920, 0, 8191, 16383]
theorem dropperref03_slopes.tab13 : rtab .any (opsOf Try.f57 13) = dropperref03_slopes.T13 := by kernel_rfl
theorem dropperref03_slopes.bits13 : waitsOk dropperref03_slopes.T13.2 dropperref03_slopes.B13 = true := by kernel_rfl
def dropperref03_slopes.T14 : Bool × List (List Nat × List Nat) := (true, [([], []), ([], []), ([0, 1], [0, 1]), ([], []), ([], []), ([3, 4], [3, 4]), ([5], [5]), ([6], [6]), ([], []), ([], []), ([8, 9], [8, 9]), ([10], [10]), ([11], [11]), ([7, 12], [7, 12]), ([2, 13], [2, 13]), ([], []), ([15, 14, 14, 0, 1, 2, 3, 4, 5, 6, 7, 8, 9, 10, 11, 12, 13, 14, 15], [14, 15])])
def dropperref03_slopes.B14 : List Nat := [0, 0, 3, 0, 0, 24, 56, 120, 0, 0, 768, 1792, 3840, 8184, 16383, 0, 65535]
theorem dropperref03_slopes.tab14 : rtab .any (opsOf Try.f57 14) = dropperref03_slopes.T14 := by kernel_rfl
theorem dropperref03_slopes.bits14 : waitsOk dropperref03_slopes.T14.2 dropperref03_slopes.B14 = true := by kernel_rfl
set_option maxHeartbeats 8000000 in
set_option maxRecDepth 100000 in
theorem dropperref03_slopes.calls (k : Nat) (A0 : Option Addr) (c0 : Nat) (l0 : List (S73)) (r1 : Int) (r2 : Int) (r3 : Int) (r4 : Int) (r5 : Bool) (w : World) (hr0 : Kd.C k73 w A0 l0.length l0) (hc0 : l0.length ≤ c0) (h : dropperref03_slopes.f k l0 = some (r1, r2, r3, r4, r5)) :
  Calls Try.prog 57 #[.slice A0 l0.length c0] w fun e w' => e = .returned (.tuple #[.agg #[.int .i64 r1, .int .i64 r2], .agg #[.int .i64 r3, .int .i64 r4], .bool r5]) ∧ Below w.heap.size w w' := by
 have hu24 := Try.underlying24; have hu73 := Try.underlying73; have HR0 := A_ hr0; have HC0 := A_ hc0; clear hr0 hc0; have HB := A_ (Below.refl w.heap.size w); have H : (dropperref03_slopes.l0 k l0 false 0 0 0 0 0) = some (r1, r2, r3, r4, r5) := h; clear h; have H' := A_ H; clear H
 go_enter Try.func57, Try.ntmps57
 go_wp2_with (first | ((with_reducible refine gate_dst (N := 2) rfl ?_); refine bxW 2 (cs := #[.int .i64 0, .int .i64 0]) (t := 24) ?_; intro gb101 hg w2 hbox hb; have n0_ := A_ (below_step (bW0 HB.out) hb); have n1_ := A_ (hbox); have n2_ := A_ ((szG hg (bW0 HB.out))); have n3_ := A_ ((szG hg (bW0 HB.out))); clear HB; have HB := n0_; have BK101 := n1_; have GW101 := n2_; have GE101 := n3_; clear n0_ n1_ n2_ n3_; clear hb hbox hg) | ((with_reducible refine gate_dst (N := 3) rfl ?_); refine bxW 3 (cs := #[.int .i64 0, .int .i64 0]) (t := 24) ?_; intro gb102 hg w3 hbox hb; have n0_ := A_ (bkB BK101 hb); have n1_ := A_ (below_step (bW1 HB.out GE101.out) hb); have n2_ := A_ (hbox); have n3_ := A_ ((szG hg (bW1 HB.out GE101.out))); have n4_ := A_ ((szG hg (bW1 HB.out GE101.out))); have n5_ := A_ ((bkL BK101 hg : gb101 ≠ gb102)); have n6_ := A_ ((bkG BK101 hg : gb102 ≠ gb101)); clear BK101; clear HB; have BK101 := n0_; have HB := n1_; have BK102 := n2_; have GW102 := n3_; have GE102 := n4_; have NB101_102 := n5_; have NB102_101 := n6_; clear n0_ n1_ n2_ n3_ n4_ n5_ n6_; clear hb hbox hg) | ((with_reducible refine gate_dst (N := 5) rfl ?_); refine bxW 5 (cs := #[.int .i64 0, .int .i64 0]) (t := 24) ?_; intro gb103 hg w4 hbox hb; have n0_ := A_ (bkB BK101 hb); have n1_ := A_ (bkB BK102 hb); have n2_ := A_ (below_step (bW2 HB.out GE101.out GE102.out) hb); have n3_ := A_ (hbox); have n4_ := A_ ((szG hg (bW2 HB.out GE101.out GE102.out))); have n5_ := A_ ((szG hg (bW2 HB.out GE101.out GE102.out))); have n6_ := A_ ((bkL BK101 hg : gb101 ≠ gb103)); have n7_ := A_ ((bkG BK101 hg : gb103 ≠ gb101)); have n8_ := A_ ((bkL BK102 hg : gb102 ≠ gb103)); have n9_ := A_ ((bkG BK102 hg : gb103 ≠ gb102)); clear BK101; clear BK102; clear HB; have BK101 := n0_; have BK102 := n1_; have HB := n2_; have BK103 := n3_; have GW103 := n4_; have GE103 := n5_; have NB101_103 := n6_; have NB103_101 := n7_; have NB102_103 := n8_; have NB103_102 := n9_; clear n0_ n1_ n2_ n3_ n4_ n5_ n6_ n7_ n8_ n9_; clear hb hbox hg) | ((with_reducible refine gate_dst (N := 6) rfl ?_); refine bxW 6 (cs := #[.int .i64 0, .int .i64 0]) (t := 24) ?_; intro gb104 hg w5 hbox hb; have n0_ := A_ (bkB BK101 hb); have n1_ := A_ (bkB BK102 hb); have n2_ := A_ (bkB BK103 hb); have n3_ := A_ (below_step (bW3 HB.out GE101.out GE102.out GE103.out) hb); have n4_ := A_ (hbox); have n5_ := A_ ((szG hg (bW3 HB.out GE101.out GE102.out GE103.out))); have n6_ := A_ ((szG hg (bW3 HB.out GE101.out GE102.out GE103.out))); have n7_ := A_ ((bkL BK101 hg : gb101 ≠ gb104)); have n8_ := A_ ((bkG BK101 hg : gb104 ≠ gb101)); have n9_ := A_ ((bkL BK102 hg : gb102 ≠ gb104)); have n10_ := A_ ((bkG BK102 hg : gb104 ≠ gb102)); have n11_ := A_ ((bkL BK103 hg : gb103 ≠ gb104)); have n12_ := A_ ((bkG BK103 hg : gb104 ≠ gb103)); clear BK101; clear BK102; clear BK103; clear HB; have BK101 := n0_; have BK102 := n1_; have BK103 := n2_; have HB := n3_; have BK104 := n4_; have GW104 := n5_; have GE104 := n6_; have NB101_104 := n7_; have NB104_101 := n8_; have NB102_104 := n9_; have NB104_102 := n10_; have NB103_104 := n11_; have NB104_103 := n12_; clear n0_ n1_ n2_ n3_ n4_ n5_ n6_ n7_ n8_ n9_ n10_ n11_ n12_; clear hb hbox hg))
 go_loopg [7, 8] k (fun kq v7 v8 w' => ∃ (x7_1 : Bool) (x8_1 : Int) (x104000_1 : Int) (x104001_1 : Int) (x105000_1 : Int) (x105001_1 : Int), v7 = .bool x7_1 ∧ v8 = .int .i64 x8_1 ∧ Aside0 (dropperref03_slopes.l0 kq l0 x7_1 x8_1 x104000_1 x104001_1 x105000_1 x105001_1 = some (r1, r2, r3, r4, r5)) ∧ Aside0 (kq ≤ k) ∧ Aside0 (w'.heap[gb101]? = some (.cells #[.int .i64 0, .int .i64 0] 24 (0, 0))) ∧ Aside0 (w'.heap[gb102]? = some (.cells #[.int .i64 0, .int .i64 0] 24 (0, 0))) ∧ Aside0 (w'.heap[gb103]? = some (.cells #[.int .i64 x104000_1, .int .i64 x104001_1] 24 (0, 0))) ∧ Aside0 (w'.heap[gb104]? = some (.cells #[.int .i64 x105000_1, .int .i64 x105001_1] 24 (0, 0))) ∧ Aside0 (Below w.heap.size w w'))
 case atStart => exact ⟨(false), (0), (0), (0), (0), (0), eS, eS, H', ⟨Nat.le_refl _⟩, ⟨bkU BK101⟩, ⟨bkU BK102⟩, ⟨bkU BK103⟩, ⟨bkU BK104⟩, ⟨by repeat (first | (with_reducible first | exact HB.out | apply below_alloc | apply pw_below_drewN | apply below_drew1 | refine below_set ?_ GE101.out | refine below_set ?_ GE102.out | refine below_set ?_ GE103.out | refine below_set ?_ GE104.out) | exact HB.out)⟩⟩
 case round =>
  clear H'
  try clear p2; try clear c5
  obtain ⟨x7_1, x8_1, x104000_1, x104001_1, x105000_1, x105001_1, rfl, rfl, HA, HK1, BK101, BK102, BK103, BK104, HB⟩ := hrel
  cases gk with
  | zero => exact absurd HA.out (by simp [dropperref03_slopes.l0])
  | succ k1 =>
   have H := HA.out; clear HA; simp only [dropperref03_slopes.l0] at H; by_cases c6 : x8_1 < (l0.length : Int); rotate_left
   ·rw [if_neg c6] at H
    have c6b0 : decide (x8_1 < (l0.length : Int)) = false := decide_eq_false c6; clear c6; simp only [Option.some.injEq, Prod.mk.injEq] at H; obtain ⟨rfl, rfl, rfl, rfl, rfl⟩ := H
    try go_wp2
    have n0_ := A_ (blk_drew BK101.out); have n1_ := A_ (blk_drew BK102.out); have n2_ := A_ (blk_drew BK103.out); have n3_ := A_ (blk_drew BK104.out); have n4_ := A_ (below_drew1 HB.out); clear BK101 BK102 BK103 BK104 HB; have BK101 := n0_; have BK102 := n1_; have BK103 := n2_; have BK104 := n3_; have HB := n4_; clear n0_ n1_ n2_ n3_ n4_
    refine start_ (n := 6) (S := fun w' => w'.cell? ⟨gb103, 0, none⟩ = some (.int .i64 x104000_1) ∧ w'.cell? ⟨gb103, 1, none⟩ = some (.int .i64 x104001_1) ∧ w'.cell? ⟨gb104, 0, none⟩ = some (.int .i64 x105000_1) ∧ w'.cell? ⟨gb104, 1, none⟩ = some (.int .i64 x105001_1)) (ds := []) (mkB 6 0) (by kernel_rfl) rfl rfl ⟨(blk_cell BK103.out 0).trans rfl, (blk_cell BK103.out 1).trans rfl, (blk_cell BK104.out 0).trans rfl, (blk_cell BK104.out 1).trans rfl⟩ (fun hHeld => ?_)
    generalize wr.drew = w123 at BK101 BK102 BK103 BK104 HB hHeld ⊢
    refine pure_ (i := 2) (N := some 96) (v := ?_) (a' := ?_) (mkB 6 4) rfl rfl (by kernel_rfl) (fun _ _ _ h => h) (Or.inl ⟨by rfl, ?_⟩) ?_ ?_
    rotate_left
    ·intro w'
     go_simp
     with_reducible rfl
    rotate_left
    ·simp only [Act.put, List.setIfInBounds_toArray, List.set_cons_zero, List.set_cons_succ, i64_w, i32_w]
     rfl
    refine take_ (i := 0) (N := some 94) (v := ?_) (a' := ?_) (mkB 6 5) rfl rfl (by kernel_rfl) (fun _ _ _ h => h) (Or.inl ⟨by rfl, ?_⟩) hHeld ?_ ?_
    rotate_left
    ·rintro w' ⟨s0, s1, s2, s3⟩
     go_simp
     with_reducible rfl
    rotate_left
    ·simp only [Act.put, List.setIfInBounds_toArray, List.set_cons_zero, List.set_cons_succ, i64_w, i32_w]
     rfl
    refine take_ (i := 1) (N := some 95) (v := ?_) (a' := ?_) (mkB 6 7) rfl rfl (by kernel_rfl) (fun _ _ _ h => h) (Or.inl ⟨by rfl, ?_⟩) hHeld ?_ ?_
    rotate_left
    ·rintro w' ⟨s0, s1, s2, s3⟩
     go_simp
     with_reducible rfl
    rotate_left
    ·simp only [Act.put, List.setIfInBounds_toArray, List.set_cons_zero, List.set_cons_succ, i64_w, i32_w]
     rfl
    refine one_ (i := 3) (N := none) (mkB 6 15) rfl rfl (by kernel_rfl) (by decide) (fun K hK => ?_)
    have hs124 : w123.cell? ⟨gb101, 0, none⟩ = some (.int .i64 0) := (blk_cell BK101.out 0).trans rfl; have hfs124 := blk_frozen BK101.out 0; have hns124_1 := NB102_101.out; have hns124_2 := NB103_101.out; have hns124_3 := NB104_101.out; have hms124_1 := NB101_102.out; have hms124_2 := NB101_103.out; have hms124_3 := NB101_104.out; have hs125 : w123.cell? ⟨gb101, 1, none⟩ = some (.int .i64 0) := (blk_cell BK101.out 1).trans rfl; have hfs125 := blk_frozen BK101.out 1; have hns125_1 := NB102_101.out; have hns125_2 := NB103_101.out; have hns125_3 := NB104_101.out; have hms125_1 := NB101_102.out; have hms125_2 := NB101_103.out; have hms125_3 := NB101_104.out
    refine skip_ (w1 := ?_) (by rfl) rfl ?_ ?_
    rotate_left
    ·go_simp
     rfl
    refine hK.out _ _ ⟨((cell_far (p := ⟨gb101, _, none⟩) NB103_101.out _).trans (((cell_far (p := ⟨gb101, _, none⟩) NB103_101.out _).trans (hHeld.1)))), ((cell_far (p := ⟨gb101, _, none⟩) NB103_101.out _).trans (((cell_far (p := ⟨gb101, _, none⟩) NB103_101.out _).trans (hHeld.2.1)))), ((cell_far (p := ⟨gb101, _, none⟩) NB104_101.out _).trans (((cell_far (p := ⟨gb101, _, none⟩) NB104_101.out _).trans (hHeld.2.2.1)))), ((cell_far (p := ⟨gb101, _, none⟩) NB104_101.out _).trans (((cell_far (p := ⟨gb101, _, none⟩) NB104_101.out _).trans (hHeld.2.2.2))))⟩ (fun hHeld => ?_)
    clear hK K
    refine one_ (i := 4) (N := none) (mkB 6 31) rfl rfl (by kernel_rfl) (by decide) (fun K hK => ?_)
    have hs126 : w123.cell? ⟨gb102, 0, none⟩ = some (.int .i64 0) := (blk_cell BK102.out 0).trans rfl; have hfs126 := blk_frozen BK102.out 0; have hns126_0 := NB101_102.out; have hns126_2 := NB103_102.out; have hns126_3 := NB104_102.out; have hms126_0 := NB102_101.out; have hms126_2 := NB102_103.out; have hms126_3 := NB102_104.out; have hs127 : w123.cell? ⟨gb102, 1, none⟩ = some (.int .i64 0) := (blk_cell BK102.out 1).trans rfl; have hfs127 := blk_frozen BK102.out 1; have hns127_0 := NB101_102.out; have hns127_2 := NB103_102.out; have hns127_3 := NB104_102.out; have hms127_0 := NB102_101.out; have hms127_2 := NB102_103.out; have hms127_3 := NB102_104.out
    refine skip_ (w1 := ?_) (by rfl) rfl ?_ ?_
    rotate_left
    ·go_simp
     rfl
    refine hK.out _ _ ⟨((cell_far (p := ⟨gb102, _, none⟩) NB103_102.out _).trans (((cell_far (p := ⟨gb102, _, none⟩) NB103_102.out _).trans (hHeld.1)))), ((cell_far (p := ⟨gb102, _, none⟩) NB103_102.out _).trans (((cell_far (p := ⟨gb102, _, none⟩) NB103_102.out _).trans (hHeld.2.1)))), ((cell_far (p := ⟨gb102, _, none⟩) NB104_102.out _).trans (((cell_far (p := ⟨gb102, _, none⟩) NB104_102.out _).trans (hHeld.2.2.1)))), ((cell_far (p := ⟨gb102, _, none⟩) NB104_102.out _).trans (((cell_far (p := ⟨gb102, _, none⟩) NB104_102.out _).trans (hHeld.2.2.2))))⟩ (fun hHeld => ?_)
    clear hK K
    refine pure_ (i := 5) (N := some 4) (v := ?_) (a' := ?_) (mkB 6 63) rfl rfl (by kernel_rfl) (fun _ _ _ h => h) (Or.inl ⟨by rfl, ?_⟩) ?_ ?_
    rotate_left
    ·intro w'
     go_simp
     with_reducible rfl
    rotate_left
    ·simp only [Act.put, List.setIfInBounds_toArray, List.set_cons_zero, List.set_cons_succ, i64_w, i32_w]
     rfl
    refine done_ (by kernel_rfl) ?_
    try go_wp2
    refine bodyPost_ret (results_list (rs := [.cell 2 24, .cell 3 24, .tmp 4]) rfl (by simp) (.cell gb101 24 #[.int .i64 x104000_1, .int .i64 x104001_1] (0, 0) _ rfl (by refine bfW ?_ NB101_102.out; refine bfW ?_ NB101_102.out; (with_reducible repeat (first | refine blk_drewN ?_ _ | refine blk_drew ?_ | refine blk_alloc ?_ _)); refine blk_put (cs := #[.int .i64 x104000_1, .int .i64 0]) ?_ 1 _ rfl; (with_reducible repeat (first | refine blk_drewN ?_ _ | refine blk_drew ?_ | refine blk_alloc ?_ _)); refine blk_put (cs := #[.int .i64 0, .int .i64 0]) ?_ 0 _ rfl; exact bkU BK101) Try.underlying24 rfl (by kernel_rfl) (.cell gb102 24 #[.int .i64 x105000_1, .int .i64 x105001_1] (0, 0) _ rfl (by (with_reducible repeat (first | refine blk_drewN ?_ _ | refine blk_drew ?_ | refine blk_alloc ?_ _)); refine blk_put (cs := #[.int .i64 x105000_1, .int .i64 0]) ?_ 1 _ rfl; (with_reducible repeat (first | refine blk_drewN ?_ _ | refine blk_drew ?_ | refine blk_alloc ?_ _)); refine blk_put (cs := #[.int .i64 0, .int .i64 0]) ?_ 0 _ rfl; refine bfW ?_ NB102_101.out; refine bfW ?_ NB102_101.out; exact bkU BK102) Try.underlying24 rfl (by kernel_rfl) (.tmp .nil)))) rfl ?_
    exact ⟨eQ, by repeat (first | (with_reducible first | exact HB.out | apply below_alloc | apply pw_below_drewN | apply below_drew1 | refine below_set ?_ GE101.out | refine below_set ?_ GE102.out | refine below_set ?_ GE103.out | refine below_set ?_ GE104.out) | exact HB.out)⟩

   rw [if_pos c6] at H; have c6b0 : decide (x8_1 < (l0.length : Int)) = true := decide_eq_true c6; clear c6; have H' := A_ H; clear H
   go_wp2
   go_loopg [7, 9] k1 (fun kq v7 v9 w' => ∃ (x7_2 : Bool) (x9_2 : Int) (x104000_2 : Int) (x104001_2 : Int) (x105000_2 : Int) (x105001_2 : Int), v7 = .bool x7_2 ∧ v9 = .int .i64 x9_2 ∧ Aside0 (dropperref03_slopes.l1 kq l0 x7_2 x8_1 x9_2 x104000_2 x104001_2 x105000_2 x105001_2 = some (r1, r2, r3, r4, r5)) ∧ Aside0 (kq ≤ k1) ∧ Aside0 (w'.heap[gb101]? = some (.cells #[.int .i64 0, .int .i64 0] 24 (0, 0))) ∧ Aside0 (w'.heap[gb102]? = some (.cells #[.int .i64 0, .int .i64 0] 24 (0, 0))) ∧ Aside0 (w'.heap[gb103]? = some (.cells #[.int .i64 x104000_2, .int .i64 x104001_2] 24 (0, 0))) ∧ Aside0 (w'.heap[gb104]? = some (.cells #[.int .i64 x105000_2, .int .i64 x105001_2] 24 (0, 0))) ∧ Aside0 (Below w.heap.size w w'))
   case atStart => exact ⟨(x7_1), (wrap64 (x8_1 + 1)), (x104000_1), (x104001_1), (x105000_1), (x105001_1), eS, eS, H', ⟨Nat.le_refl _⟩, ⟨bkU BK101⟩, ⟨bkU BK102⟩, ⟨bkU BK103⟩, ⟨bkU BK104⟩, ⟨by repeat (first | (with_reducible first | exact HB.out | apply below_alloc | apply pw_below_drewN | apply below_drew1 | refine below_set ?_ GE101.out | refine below_set ?_ GE102.out | refine below_set ?_ GE103.out | refine below_set ?_ GE104.out) | exact HB.out)⟩⟩
   case round =>
    clear H'
    try clear p2; try clear c5; try clear c6; try clear c6b0; try clear p6; try clear p2
    obtain ⟨x7_2, x9_2, x104000_2, x104001_2, x105000_2, x105001_2, rfl, rfl, HA, HK2, BK101, BK102, BK103, BK104, HB⟩ := hrel
    cases gk with
    | zero => exact absurd HA.out (by simp [dropperref03_slopes.l1])
    | succ k2 =>
     have H := HA.out; clear HA; simp only [dropperref03_slopes.l1] at H; by_cases c7 : x9_2 < (l0.length : Int); rotate_left
     ·rw [if_neg c7] at H
      have c7b0 : decide (x9_2 < (l0.length : Int)) = false := decide_eq_false c7; clear c7; have H' := A_ H; clear H
      go_wp2
      go_roundg k2
      case measure => have := HK1.out; have := HK2.out; omega
      case rel => exact ⟨(x7_2), (wrap64 (x8_1 + 1)), (x104000_2), (x104001_2), (x105000_2), (x105001_2), eS, eS, H', ⟨by have := HK1.out; have := HK2.out; omega⟩, ⟨bkU BK101⟩, ⟨bkU BK102⟩, ⟨bkU BK103⟩, ⟨bkU BK104⟩, ⟨by repeat (first | (with_reducible first | exact HB.out | apply below_alloc | apply pw_below_drewN | apply below_drew1 | refine below_set ?_ GE101.out | refine below_set ?_ GE102.out | refine below_set ?_ GE103.out | refine below_set ?_ GE104.out) | exact HB.out)⟩⟩
     rw [if_pos c7] at H; have c7b0 : decide (x9_2 < (l0.length : Int)) = true := decide_eq_true c7; clear c7; have H' := A_ H; clear H
     go_wp2
     go_loopg [7, 10] k2 (fun kq v7 v10 w' => ∃ (x7_3 : Bool) (x10_3 : Int) (x104000_3 : Int) (x104001_3 : Int) (x105000_3 : Int) (x105001_3 : Int), v7 = .bool x7_3 ∧ v10 = .int .i64 x10_3 ∧ Aside0 (dropperref03_slopes.l2 kq l0 x7_3 x8_1 x9_2 x10_3 x104000_3 x104001_3 x105000_3 x105001_3 = some (r1, r2, r3, r4, r5)) ∧ Aside0 (kq ≤ k2) ∧ Aside0 (w'.heap[gb101]? = some (.cells #[.int .i64 0, .int .i64 0] 24 (0, 0))) ∧ Aside0 (w'.heap[gb102]? = some (.cells #[.int .i64 0, .int .i64 0] 24 (0, 0))) ∧ Aside0 (w'.heap[gb103]? = some (.cells #[.int .i64 x104000_3, .int .i64 x104001_3] 24 (0, 0))) ∧ Aside0 (w'.heap[gb104]? = some (.cells #[.int .i64 x105000_3, .int .i64 x105001_3] 24 (0, 0))) ∧ Aside0 (Below w.heap.size w w'))
     case atStart => exact ⟨(x7_2), (0), (x104000_2), (x104001_2), (x105000_2), (x105001_2), eS, eS, H', ⟨Nat.le_refl _⟩, ⟨bkU BK101⟩, ⟨bkU BK102⟩, ⟨bkU BK103⟩, ⟨bkU BK104⟩, ⟨by repeat (first | (with_reducible first | exact HB.out | apply below_alloc | apply pw_below_drewN | apply below_drew1 | refine below_set ?_ GE101.out | refine below_set ?_ GE102.out | refine below_set ?_ GE103.out | refine below_set ?_ GE104.out) | exact HB.out)⟩⟩
     case round =>
      clear H'
      try clear p2; try clear c5; try clear c6; try clear c6b0; try clear p6; try clear c7; try clear c7b0; try clear p2; try clear p6
      obtain ⟨x7_3, x10_3, x104000_3, x104001_3, x105000_3, x105001_3, rfl, rfl, HA, HK3, BK101, BK102, BK103, BK104, HB⟩ := hrel
      cases gk with
      | zero => exact absurd HA.out (by simp [dropperref03_slopes.l2])
      | succ k3 =>
       have H := HA.out; clear HA; simp only [dropperref03_slopes.l2] at H; by_cases c8 : x10_3 < 4; rotate_left
       ·rw [if_neg c8] at H
        have c8b0 : decide (x10_3 < 4) = false := decide_eq_false c8; clear c8; have H' := A_ H; clear H
        go_wp2
        go_roundg k3
        case measure => have := HK1.out; have := HK2.out; have := HK3.out; omega
        case rel => exact ⟨(x7_3), (wrap64 (x9_2 + 1)), (x104000_3), (x104001_3), (x105000_3), (x105001_3), eS, eS, H', ⟨by have := HK1.out; have := HK2.out; have := HK3.out; omega⟩, ⟨bkU BK101⟩, ⟨bkU BK102⟩, ⟨bkU BK103⟩, ⟨bkU BK104⟩, ⟨by repeat (first | (with_reducible first | exact HB.out | apply below_alloc | apply pw_below_drewN | apply below_drew1 | refine below_set ?_ GE101.out | refine below_set ?_ GE102.out | refine below_set ?_ GE103.out | refine below_set ?_ GE104.out) | exact HB.out)⟩⟩
       rw [if_pos c8] at H; have c8b0 : decide (x10_3 < 4) = true := decide_eq_true c8; clear c8; by_cases c9 : 0 ≤ x8_1; rotate_left
       ·rw [if_neg c9] at H
        exact absurd H (by simp)
       rw [if_pos c9] at H; have c9b0 : decide (0 ≤ x8_1) = true := decide_eq_true c9; clear c9; by_cases c10 : x8_1 < (l0.length : Int); rotate_left
       ·rw [if_neg c10] at H
        exact absurd H (by simp)
       rw [if_pos c10] at H; have c10b0 : decide (x8_1 < (l0.length : Int)) = true := decide_eq_true c10; clear c10; replace H := Option.bind_eq_some_iff.mp H; obtain ⟨t106, A110, H⟩ := H; (try dsimp only at H); have A11 := A_ A110; clear A110; by_cases c12 : 0 ≤ x9_2; rotate_left
       ·rw [if_neg c12] at H
        exact absurd H (by simp)
       rw [if_pos c12] at H; have c12b0 : decide (0 ≤ x9_2) = true := decide_eq_true c12; clear c12; by_cases c13 : x9_2 < (l0.length : Int); rotate_left
       ·rw [if_neg c13] at H
        exact absurd H (by simp)
       rw [if_pos c13] at H; have c13b0 : decide (x9_2 < (l0.length : Int)) = true := decide_eq_true c13; clear c13; replace H := Option.bind_eq_some_iff.mp H; obtain ⟨t108, A140, H⟩ := H; (try dsimp only at H); have A14 := A_ A140; clear A140; replace H := Option.bind_eq_some_iff.mp H; obtain ⟨t111, A150, H⟩ := H; (try dsimp only at H); have A15 := A_ A150; clear A150; by_cases c16 : t111 = true; rotate_left
       ·replace c16 := Bool.eq_false_iff.mpr c16
        subst c16; rw [if_neg (show ¬ (false = true) by decide)] at H; have H' := A_ H; clear H
        try go_wp2
        have n0_ := A_ (blk_drew BK101.out); have n1_ := A_ (blk_drew BK102.out); have n2_ := A_ (blk_drew BK103.out); have n3_ := A_ (blk_drew BK104.out); have n4_ := A_ (below_drew1 HB.out); clear BK101 BK102 BK103 BK104 HB; have BK101 := n0_; have BK102 := n1_; have BK103 := n2_; have BK104 := n3_; have HB := n4_; clear n0_ n1_ n2_ n3_ n4_; have p105 : 0 ≤ (x8_1 : Int) := oD; have q105 : x8_1 < (l0.length : Int) := oD; obtain ⟨ad105, e105, hx105_0, hx105_1, hx105_2⟩ := at_T73 HR0.out x8_1 p105 q105; have hw105_2 := hx105_2; have hw105_1 := hx105_1; have hw105_0 := hx105_0
        cases e105
        replace hx105_0 := (HB.out.cell (World.block_lt_of_cell? w _ hx105_0)).trans hx105_0; replace hx105_1 := (HB.out.cell (World.block_lt_of_cell? w _ hx105_1)).trans hx105_1; replace hx105_2 := (HB.out.cell (World.block_lt_of_cell? w _ hx105_2)).trans hx105_2; replace p105 := eq_true p105; replace q105 := eq_true q105; have p107 : 0 ≤ (x9_2 : Int) := oD; have q107 : x9_2 < (l0.length : Int) := oD; obtain ⟨ad107, e107, hx107_0, hx107_1, hx107_2⟩ := at_T73 HR0.out x9_2 p107 q107; have hw107_2 := hx107_2; have hw107_1 := hx107_1; have hw107_0 := hx107_0
        obtain rfl : ad105 = ad107 := (by injection e107)
        replace hx107_0 := (HB.out.cell (World.block_lt_of_cell? w _ hx107_0)).trans hx107_0; replace hx107_1 := (HB.out.cell (World.block_lt_of_cell? w _ hx107_1)).trans hx107_1; replace hx107_2 := (HB.out.cell (World.block_lt_of_cell? w _ hx107_2)).trans hx107_2; replace p107 := eq_true p107; replace q107 := eq_true q107
        refine start_ (n := 18) (S := fun w' => w'.cell? (ad105.add ((x8_1).toNat * 3)) = some (.int .i64 ((rd_T73 l0 x8_1).f0)) ∧ w'.cell? ⟨(ad105.add ((x8_1).toNat * 3)).block, (ad105.add ((x8_1).toNat * 3)).off + 1, none⟩ = some (.int .i64 ((rd_T73 l0 x8_1).f1)) ∧ w'.cell? ⟨(ad105.add ((x8_1).toNat * 3)).block, (ad105.add ((x8_1).toNat * 3)).off + 2, none⟩ = some (.int .i64 ((rd_T73 l0 x8_1).f2)) ∧ w'.cell? (ad105.add ((x9_2).toNat * 3)) = some (.int .i64 ((rd_T73 l0 x9_2).f0)) ∧ w'.cell? ⟨(ad105.add ((x9_2).toNat * 3)).block, (ad105.add ((x9_2).toNat * 3)).off + 1, none⟩ = some (.int .i64 ((rd_T73 l0 x9_2).f1)) ∧ w'.cell? ⟨(ad105.add ((x9_2).toNat * 3)).block, (ad105.add ((x9_2).toNat * 3)).off + 2, none⟩ = some (.int .i64 ((rd_T73 l0 x9_2).f2))) (ds := []) (mkB 18 0) (by kernel_rfl) rfl rfl ⟨(pw_cell_below HB.out hw105_0), (pw_cell_below HB.out hw105_1), (pw_cell_below HB.out hw105_2), (pw_cell_below HB.out hw107_0), (pw_cell_below HB.out hw107_1), (pw_cell_below HB.out hw107_2)⟩ (fun hHeld => ?_); refine with_tabW dropperref03_slopes.tab12 dropperref03_slopes.bits12 (fun HT_ HW_ => ?_)
        generalize wr.drew = w119 at BK101 BK102 BK103 BK104 HB hx105_0 hx105_1 hx105_2 hx107_0 hx107_1 hx107_2 hHeld ⊢; refine pr_ 0 (some 32) (mkB 18 1) HT_ ?_; refine pr_ 1 (some 33) (mkB 18 3) HT_ ?_; refine pr_ 2 (some 34) (mkB 18 7) HT_ ?_; refine pr_ 4 (some 36) (mkB 18 23) HT_ ?_; refine pr_ 5 (some 37) (mkB 18 55) HT_ ?_; refine pr_ 6 (some 38) (mkB 18 119) HT_ ?_; refine pr_ 8 (some 40) (mkB 18 375) HT_ ?_; refine pr_ 9 (some 41) (mkB 18 887) HT_ ?_; refine pr_ 10 (some 42) (mkB 18 1911) HT_ ?_; refine pr_ 12 (some 44) (mkB 18 6007) HT_ ?_; refine pr_ 13 (some 45) (mkB 18 14199) HT_ ?_; refine pr_ 14 (some 46) (mkB 18 30583) HT_ ?_
        refine take_ (i := 3) (N := some 35) (v := ?_) (a' := ?_) (mkB 18 30591) rfl rfl (take_ofW HT_.out HW_.out (by kernel_rfl)) (fun _ _ _ h => h) (Or.inl ⟨by rfl, ?_⟩) hHeld ?_ ?_
        rotate_left
        ·rintro w' ⟨s0, s1, s2, s3, s4, s5⟩
         go_simp
         with_reducible rfl
        rotate_left
        ·simp only [Act.put, List.setIfInBounds_toArray, List.set_cons_zero, List.set_cons_succ, i64_w, i32_w]
         rfl
        refine take_ (i := 11) (N := some 43) (v := ?_) (a' := ?_) (mkB 18 32639) rfl rfl (take_ofW HT_.out HW_.out (by kernel_rfl)) (fun _ _ _ h => h) (Or.inl ⟨by rfl, ?_⟩) hHeld ?_ ?_
        rotate_left
        ·rintro w' ⟨s0, s1, s2, s3, s4, s5⟩
         go_simp
         with_reducible rfl
        rotate_left
        ·simp only [Act.put, List.setIfInBounds_toArray, List.set_cons_zero, List.set_cons_succ, i64_w, i32_w]
         rfl
        refine one_ (i := 7) (N := some 39) (mkB 18 32767) rfl rfl (one_of HT_.out (by kernel_rfl)) (by decide) (fun K hK => ?_)
        refine goes_ Try.func73 (by kernel_rfl) rfl #[.agg #[.int .i64 ((rd_T73 l0 x8_1).f0), .int .i64 ((rd_T73 l0 x8_1).f1), .int .i64 ((rd_T73 l0 x8_1).f2)], .bool ((Int.tmod x10_3 2) == 1)] (by rfl) rfl rfl (by (try simp only [List.map_toArray, List.map_cons, List.map_nil]); first | done | rfl | (simp only [List.length_drop, List.length_take]; rfl)) ?_
        with_reducible refine (dropperref03_corner.calls ((rd_T73 l0 x8_1).f0) ((rd_T73 l0 x8_1).f1) ((rd_T73 l0 x8_1).f2) ((Int.tmod x10_3 2) == 1) t106 _ A11.out).mono ?_
        rintro e w120 ⟨rfl, hb⟩
        refine ⟨_, rfl, ?_⟩
        have n0_ := A_ (bkB BK101 hb); have n1_ := A_ (bkB BK102 hb); have n2_ := A_ (bkB BK103 hb); have n3_ := A_ (bkB BK104 hb); have n4_ := A_ (below_step (bW4 HB.out GE101.out GE102.out GE103.out GE104.out) hb); clear BK101 BK102 BK103 BK104 HB; have BK101 := n0_; have BK102 := n1_; have BK103 := n2_; have BK104 := n3_; have HB := n4_; clear n0_ n1_ n2_ n3_ n4_
        (try clear hb)
        (try clear hb2)
        (try clear hk)
        (try clear hi)
        refine hK.out _ _ ⟨(pw_cell_below HB.out hw105_0), (pw_cell_below HB.out hw105_1), (pw_cell_below HB.out hw105_2), (pw_cell_below HB.out hw107_0), (pw_cell_below HB.out hw107_1), (pw_cell_below HB.out hw107_2)⟩ (fun hHeld => ?_)
        clear hK K
        refine norm_ (a' := ?_) ?_ ?_
        rotate_left
        ·show Act.put _ (some 39) _ = _
         simp only [Act.put, List.setIfInBounds_toArray, List.set_cons_zero, List.set_cons_succ, i64_w, i32_w]
         rfl
        refine one_ (i := 15) (N := some 47) (mkB 18 65535) rfl rfl (one_of HT_.out (by kernel_rfl)) (by decide) (fun K hK => ?_)
        refine goes_ Try.func73 (by kernel_rfl) rfl #[.agg #[.int .i64 ((rd_T73 l0 x9_2).f0), .int .i64 ((rd_T73 l0 x9_2).f1), .int .i64 ((rd_T73 l0 x9_2).f2)], .bool ((wrap64 (Int.tdiv x10_3 2)) == 1)] (by rfl) rfl rfl (by (try simp only [List.map_toArray, List.map_cons, List.map_nil]); first | done | rfl | (simp only [List.length_drop, List.length_take]; rfl)) ?_
        with_reducible refine (dropperref03_corner.calls ((rd_T73 l0 x9_2).f0) ((rd_T73 l0 x9_2).f1) ((rd_T73 l0 x9_2).f2) ((wrap64 (Int.tdiv x10_3 2)) == 1) t108 _ A14.out).mono ?_
        rintro e w121 ⟨rfl, hb⟩
        refine ⟨_, rfl, ?_⟩
        have n0_ := A_ (bkB BK101 hb); have n1_ := A_ (bkB BK102 hb); have n2_ := A_ (bkB BK103 hb); have n3_ := A_ (bkB BK104 hb); have n4_ := A_ (below_step (bW4 HB.out GE101.out GE102.out GE103.out GE104.out) hb); clear BK101 BK102 BK103 BK104 HB; have BK101 := n0_; have BK102 := n1_; have BK103 := n2_; have BK104 := n3_; have HB := n4_; clear n0_ n1_ n2_ n3_ n4_
        (try clear hb)
        (try clear hb2)
        (try clear hk)
        (try clear hi)
        refine hK.out _ _ ⟨(pw_cell_below HB.out hw105_0), (pw_cell_below HB.out hw105_1), (pw_cell_below HB.out hw105_2), (pw_cell_below HB.out hw107_0), (pw_cell_below HB.out hw107_1), (pw_cell_below HB.out hw107_2)⟩ (fun hHeld => ?_)
        clear hK K
        refine norm_ (a' := ?_) ?_ ?_
        rotate_left
        ·show Act.put _ (some 47) _ = _
         simp only [Act.put, List.setIfInBounds_toArray, List.set_cons_zero, List.set_cons_succ, i64_w, i32_w]
         rfl
        refine pr_ 16 (some 11) (mkB 18 131071) HT_ ?_; refine pr_ 17 (some 12) (mkB 18 262143) HT_ ?_
        refine done_ (done_of HT_.out (by kernel_rfl)) ?_
        try go_wp2
        have n0_ := A_ (blk_drew BK101.out); have n1_ := A_ (blk_drew BK102.out); have n2_ := A_ (blk_drew BK103.out); have n3_ := A_ (blk_drew BK104.out); have n4_ := A_ (below_drew1 HB.out); clear BK101 BK102 BK103 BK104 HB; have BK101 := n0_; have BK102 := n1_; have BK103 := n2_; have BK104 := n3_; have HB := n4_; clear n0_ n1_ n2_ n3_ n4_; have p109 : 0 ≤ (x8_1 : Int) := oD; have q109 : x8_1 < (l0.length : Int) := oD; obtain ⟨ad109, e109, hx109_0, hx109_1, hx109_2⟩ := at_T73 HR0.out x8_1 p109 q109; have hw109_2 := hx109_2; have hw109_1 := hx109_1; have hw109_0 := hx109_0
        obtain rfl : ad105 = ad109 := (by injection e109)
        replace hx109_0 := (HB.out.cell (World.block_lt_of_cell? w _ hx109_0)).trans hx109_0; replace hx109_1 := (HB.out.cell (World.block_lt_of_cell? w _ hx109_1)).trans hx109_1; replace hx109_2 := (HB.out.cell (World.block_lt_of_cell? w _ hx109_2)).trans hx109_2; replace p109 := eq_true p109; replace q109 := eq_true q109; have p110 : 0 ≤ (x9_2 : Int) := oD; have q110 : x9_2 < (l0.length : Int) := oD; obtain ⟨ad110, e110, hx110_0, hx110_1, hx110_2⟩ := at_T73 HR0.out x9_2 p110 q110; have hw110_2 := hx110_2; have hw110_1 := hx110_1; have hw110_0 := hx110_0
        obtain rfl : ad105 = ad110 := (by injection e110)
        replace hx110_0 := (HB.out.cell (World.block_lt_of_cell? w _ hx110_0)).trans hx110_0; replace hx110_1 := (HB.out.cell (World.block_lt_of_cell? w _ hx110_1)).trans hx110_1; replace hx110_2 := (HB.out.cell (World.block_lt_of_cell? w _ hx110_2)).trans hx110_2; replace p110 := eq_true p110; replace q110 := eq_true q110
        refine start_ (n := 15) (S := fun w' => w'.cell? (ad105.add ((x8_1).toNat * 3)) = some (.int .i64 ((rd_T73 l0 x8_1).f0)) ∧ w'.cell? ⟨(ad105.add ((x8_1).toNat * 3)).block, (ad105.add ((x8_1).toNat * 3)).off + 1, none⟩ = some (.int .i64 ((rd_T73 l0 x8_1).f1)) ∧ w'.cell? ⟨(ad105.add ((x8_1).toNat * 3)).block, (ad105.add ((x8_1).toNat * 3)).off + 2, none⟩ = some (.int .i64 ((rd_T73 l0 x8_1).f2)) ∧ w'.cell? (ad105.add ((x9_2).toNat * 3)) = some (.int .i64 ((rd_T73 l0 x9_2).f0)) ∧ w'.cell? ⟨(ad105.add ((x9_2).toNat * 3)).block, (ad105.add ((x9_2).toNat * 3)).off + 1, none⟩ = some (.int .i64 ((rd_T73 l0 x9_2).f1)) ∧ w'.cell? ⟨(ad105.add ((x9_2).toNat * 3)).block, (ad105.add ((x9_2).toNat * 3)).off + 2, none⟩ = some (.int .i64 ((rd_T73 l0 x9_2).f2))) (ds := []) (mkB 15 0) (by kernel_rfl) rfl rfl ⟨(pw_cell_below HB.out hw109_0), (pw_cell_below HB.out hw109_1), (pw_cell_below HB.out hw109_2), (pw_cell_below HB.out hw110_0), (pw_cell_below HB.out hw110_1), (pw_cell_below HB.out hw110_2)⟩ (fun hHeld => ?_); refine with_tabW dropperref03_slopes.tab13 dropperref03_slopes.bits13 (fun HT_ HW_ => ?_)
        generalize w121.drew = w122 at BK101 BK102 BK103 BK104 HB hx109_0 hx109_1 hx109_2 hx110_0 hx110_1 hx110_2 hHeld ⊢; refine pr_ 0 (some 48) (mkB 15 1) HT_ ?_; refine pr_ 1 (some 49) (mkB 15 3) HT_ ?_; refine pr_ 2 (some 50) (mkB 15 7) HT_ ?_; refine pr_ 3 (some 51) (mkB 15 15) HT_ ?_; refine pr_ 4 (some 52) (mkB 15 31) HT_ ?_; refine pr_ 6 (some 54) (mkB 15 95) HT_ ?_; refine pr_ 7 (some 55) (mkB 15 223) HT_ ?_; refine pr_ 8 (some 56) (mkB 15 479) HT_ ?_; refine pr_ 9 (some 57) (mkB 15 991) HT_ ?_; refine pr_ 10 (some 58) (mkB 15 2015) HT_ ?_; refine pr_ 12 (some 60) (mkB 15 6111) HT_ ?_
        refine take_ (i := 5) (N := some 53) (v := ?_) (a' := ?_) (mkB 15 6143) rfl rfl (take_ofW HT_.out HW_.out (by kernel_rfl)) (fun _ _ _ h => h) (Or.inl ⟨by rfl, ?_⟩) hHeld ?_ ?_
        rotate_left
        ·rintro w' ⟨s0, s1, s2, s3, s4, s5⟩
         go_simp
         with_reducible rfl
        rotate_left
        ·simp only [Act.put, List.setIfInBounds_toArray, List.set_cons_zero, List.set_cons_succ, i64_w, i32_w]
         rfl
        refine take_ (i := 11) (N := some 59) (v := ?_) (a' := ?_) (mkB 15 8191) rfl rfl (take_ofW HT_.out HW_.out (by kernel_rfl)) (fun _ _ _ h => h) (Or.inl ⟨by rfl, ?_⟩) hHeld ?_ ?_
        rotate_left
        ·rintro w' ⟨s0, s1, s2, s3, s4, s5⟩
         go_simp
         with_reducible rfl
        rotate_left
        ·simp only [Act.put, List.setIfInBounds_toArray, List.set_cons_zero, List.set_cons_succ, i64_w, i32_w]
         rfl
        refine one_ (i := 13) (N := some 61) (mkB 15 16383) rfl rfl (one_of HT_.out (by kernel_rfl)) (by decide) (fun K hK => ?_)
        refine goes_ Try.func74 (by kernel_rfl) rfl #[.slice (some ad105) l0.length c0, .int .i64 ((rd_T73 l0 x8_1).f0), .int .i64 t106, .int .i64 ((rd_T73 l0 x9_2).f0), .int .i64 t108] (by rfl) rfl rfl (by (try simp only [List.map_toArray, List.map_cons, List.map_nil]); first | done | rfl | (simp only [List.length_drop, List.length_take]; rfl)) ?_
        with_reducible refine (dropperref03_through.calls k3 _ _ l0 ((rd_T73 l0 x8_1).f0) t106 ((rd_T73 l0 x9_2).f0) t108 false _ ?side1 ?side2 A15.out).mono ?_
        (case side1 => exact cU (Kd.C_below HR0.out HB.out))
        (case side2 => exact HC0.out)
        rintro e w' ⟨rfl, ⟨nd, rfl⟩⟩
        refine ⟨_, rfl, ?_⟩
        refine hK.out _ _ ⟨(pw_cell_below HB.out hw109_0), (pw_cell_below HB.out hw109_1), (pw_cell_below HB.out hw109_2), (pw_cell_below HB.out hw110_0), (pw_cell_below HB.out hw110_1), (pw_cell_below HB.out hw110_2)⟩ (fun hHeld => ?_)
        clear hK K
        refine norm_ (a' := ?_) ?_ ?_
        rotate_left
        ·show Act.put _ (some 61) _ = _
         simp only [Act.put, List.setIfInBounds_toArray, List.set_cons_zero, List.set_cons_succ, i64_w, i32_w]
         rfl
        refine pr_ 14 (some 62) (mkB 15 32767) HT_ ?_
        refine done_ (done_of HT_.out (by kernel_rfl)) ?_
        try go_wp2
        go_roundg k3
        case measure => have := HK1.out; have := HK2.out; have := HK3.out; omega
        case rel => exact ⟨(x7_3), (wrap64 (x10_3 + 1)), (x104000_3), (x104001_3), (x105000_3), (x105001_3), eS, eS, H', ⟨by have := HK1.out; have := HK2.out; have := HK3.out; omega⟩, ⟨bkU BK101⟩, ⟨bkU BK102⟩, ⟨bkU BK103⟩, ⟨bkU BK104⟩, ⟨by repeat (first | (with_reducible first | exact HB.out | apply below_alloc | apply pw_below_drewN | apply below_drew1 | refine below_set ?_ GE101.out | refine below_set ?_ GE102.out | refine below_set ?_ GE103.out | refine below_set ?_ GE104.out) | exact HB.out)⟩⟩
       subst c16; rw [if_pos rfl] at H; replace H := Option.bind_eq_some_iff.mp H; obtain ⟨⟨t114, t115⟩, A170, H⟩ := H; (try dsimp only at H); have A17 := A_ A170; clear A170; have HC18 := A_ H; clear H
       try go_wp2
       have n0_ := A_ (blk_drew BK101.out); have n1_ := A_ (blk_drew BK102.out); have n2_ := A_ (blk_drew BK103.out); have n3_ := A_ (blk_drew BK104.out); have n4_ := A_ (below_drew1 HB.out); clear BK101 BK102 BK103 BK104 HB; have BK101 := n0_; have BK102 := n1_; have BK103 := n2_; have BK104 := n3_; have HB := n4_; clear n0_ n1_ n2_ n3_ n4_; have p105 : 0 ≤ (x8_1 : Int) := oD; have q105 : x8_1 < (l0.length : Int) := oD; obtain ⟨ad105, e105, hx105_0, hx105_1, hx105_2⟩ := at_T73 HR0.out x8_1 p105 q105; have hw105_2 := hx105_2; have hw105_1 := hx105_1; have hw105_0 := hx105_0
       cases e105
       replace hx105_0 := (HB.out.cell (World.block_lt_of_cell? w _ hx105_0)).trans hx105_0; replace hx105_1 := (HB.out.cell (World.block_lt_of_cell? w _ hx105_1)).trans hx105_1; replace hx105_2 := (HB.out.cell (World.block_lt_of_cell? w _ hx105_2)).trans hx105_2; replace p105 := eq_true p105; replace q105 := eq_true q105; have p107 : 0 ≤ (x9_2 : Int) := oD; have q107 : x9_2 < (l0.length : Int) := oD; obtain ⟨ad107, e107, hx107_0, hx107_1, hx107_2⟩ := at_T73 HR0.out x9_2 p107 q107; have hw107_2 := hx107_2; have hw107_1 := hx107_1; have hw107_0 := hx107_0
       obtain rfl : ad105 = ad107 := (by injection e107)
       replace hx107_0 := (HB.out.cell (World.block_lt_of_cell? w _ hx107_0)).trans hx107_0; replace hx107_1 := (HB.out.cell (World.block_lt_of_cell? w _ hx107_1)).trans hx107_1; replace hx107_2 := (HB.out.cell (World.block_lt_of_cell? w _ hx107_2)).trans hx107_2; replace p107 := eq_true p107; replace q107 := eq_true q107
       refine start_ (n := 18) (S := fun w' => w'.cell? (ad105.add ((x8_1).toNat * 3)) = some (.int .i64 ((rd_T73 l0 x8_1).f0)) ∧ w'.cell? ⟨(ad105.add ((x8_1).toNat * 3)).block, (ad105.add ((x8_1).toNat * 3)).off + 1, none⟩ = some (.int .i64 ((rd_T73 l0 x8_1).f1)) ∧ w'.cell? ⟨(ad105.add ((x8_1).toNat * 3)).block, (ad105.add ((x8_1).toNat * 3)).off + 2, none⟩ = some (.int .i64 ((rd_T73 l0 x8_1).f2)) ∧ w'.cell? (ad105.add ((x9_2).toNat * 3)) = some (.int .i64 ((rd_T73 l0 x9_2).f0)) ∧ w'.cell? ⟨(ad105.add ((x9_2).toNat * 3)).block, (ad105.add ((x9_2).toNat * 3)).off + 1, none⟩ = some (.int .i64 ((rd_T73 l0 x9_2).f1)) ∧ w'.cell? ⟨(ad105.add ((x9_2).toNat * 3)).block, (ad105.add ((x9_2).toNat * 3)).off + 2, none⟩ = some (.int .i64 ((rd_T73 l0 x9_2).f2))) (ds := []) (mkB 18 0) (by kernel_rfl) rfl rfl ⟨(pw_cell_below HB.out hw105_0), (pw_cell_below HB.out hw105_1), (pw_cell_below HB.out hw105_2), (pw_cell_below HB.out hw107_0), (pw_cell_below HB.out hw107_1), (pw_cell_below HB.out hw107_2)⟩ (fun hHeld => ?_); refine with_tabW dropperref03_slopes.tab12 dropperref03_slopes.bits12 (fun HT_ HW_ => ?_)
       generalize wr.drew = w19 at BK101 BK102 BK103 BK104 HB hx105_0 hx105_1 hx105_2 hx107_0 hx107_1 hx107_2 hHeld ⊢; refine pr_ 0 (some 32) (mkB 18 1) HT_ ?_; refine pr_ 1 (some 33) (mkB 18 3) HT_ ?_; refine pr_ 2 (some 34) (mkB 18 7) HT_ ?_; refine pr_ 4 (some 36) (mkB 18 23) HT_ ?_; refine pr_ 5 (some 37) (mkB 18 55) HT_ ?_; refine pr_ 6 (some 38) (mkB 18 119) HT_ ?_; refine pr_ 8 (some 40) (mkB 18 375) HT_ ?_; refine pr_ 9 (some 41) (mkB 18 887) HT_ ?_; refine pr_ 10 (some 42) (mkB 18 1911) HT_ ?_; refine pr_ 12 (some 44) (mkB 18 6007) HT_ ?_; refine pr_ 13 (some 45) (mkB 18 14199) HT_ ?_; refine pr_ 14 (some 46) (mkB 18 30583) HT_ ?_
       refine take_ (i := 3) (N := some 35) (v := ?_) (a' := ?_) (mkB 18 30591) rfl rfl (take_ofW HT_.out HW_.out (by kernel_rfl)) (fun _ _ _ h => h) (Or.inl ⟨by rfl, ?_⟩) hHeld ?_ ?_
       rotate_left
       ·rintro w' ⟨s0, s1, s2, s3, s4, s5⟩
        go_simp
        with_reducible rfl
       rotate_left
       ·simp only [Act.put, List.setIfInBounds_toArray, List.set_cons_zero, List.set_cons_succ, i64_w, i32_w]
        rfl
       refine take_ (i := 11) (N := some 43) (v := ?_) (a' := ?_) (mkB 18 32639) rfl rfl (take_ofW HT_.out HW_.out (by kernel_rfl)) (fun _ _ _ h => h) (Or.inl ⟨by rfl, ?_⟩) hHeld ?_ ?_
       rotate_left
       ·rintro w' ⟨s0, s1, s2, s3, s4, s5⟩
        go_simp
        with_reducible rfl
       rotate_left
       ·simp only [Act.put, List.setIfInBounds_toArray, List.set_cons_zero, List.set_cons_succ, i64_w, i32_w]
        rfl
       refine one_ (i := 7) (N := some 39) (mkB 18 32767) rfl rfl (one_of HT_.out (by kernel_rfl)) (by decide) (fun K hK => ?_)
       refine goes_ Try.func73 (by kernel_rfl) rfl #[.agg #[.int .i64 ((rd_T73 l0 x8_1).f0), .int .i64 ((rd_T73 l0 x8_1).f1), .int .i64 ((rd_T73 l0 x8_1).f2)], .bool ((Int.tmod x10_3 2) == 1)] (by rfl) rfl rfl (by (try simp only [List.map_toArray, List.map_cons, List.map_nil]); first | done | rfl | (simp only [List.length_drop, List.length_take]; rfl)) ?_
       with_reducible refine (dropperref03_corner.calls ((rd_T73 l0 x8_1).f0) ((rd_T73 l0 x8_1).f1) ((rd_T73 l0 x8_1).f2) ((Int.tmod x10_3 2) == 1) t106 _ A11.out).mono ?_
       rintro e w20 ⟨rfl, hb⟩
       refine ⟨_, rfl, ?_⟩
       have n0_ := A_ (bkB BK101 hb); have n1_ := A_ (bkB BK102 hb); have n2_ := A_ (bkB BK103 hb); have n3_ := A_ (bkB BK104 hb); have n4_ := A_ (below_step (bW4 HB.out GE101.out GE102.out GE103.out GE104.out) hb); clear BK101 BK102 BK103 BK104 HB; have BK101 := n0_; have BK102 := n1_; have BK103 := n2_; have BK104 := n3_; have HB := n4_; clear n0_ n1_ n2_ n3_ n4_
       (try clear hb)
       (try clear hb2)
       (try clear hk)
       (try clear hi)
       refine hK.out _ _ ⟨(pw_cell_below HB.out hw105_0), (pw_cell_below HB.out hw105_1), (pw_cell_below HB.out hw105_2), (pw_cell_below HB.out hw107_0), (pw_cell_below HB.out hw107_1), (pw_cell_below HB.out hw107_2)⟩ (fun hHeld => ?_)
       clear hK K
       refine norm_ (a' := ?_) ?_ ?_
       rotate_left
       ·show Act.put _ (some 39) _ = _
        simp only [Act.put, List.setIfInBounds_toArray, List.set_cons_zero, List.set_cons_succ, i64_w, i32_w]
        rfl
       refine one_ (i := 15) (N := some 47) (mkB 18 65535) rfl rfl (one_of HT_.out (by kernel_rfl)) (by decide) (fun K hK => ?_)
       refine goes_ Try.func73 (by kernel_rfl) rfl #[.agg #[.int .i64 ((rd_T73 l0 x9_2).f0), .int .i64 ((rd_T73 l0 x9_2).f1), .int .i64 ((rd_T73 l0 x9_2).f2)], .bool ((wrap64 (Int.tdiv x10_3 2)) == 1)] (by rfl) rfl rfl (by (try simp only [List.map_toArray, List.map_cons, List.map_nil]); first | done | rfl | (simp only [List.length_drop, List.length_take]; rfl)) ?_
       with_reducible refine (dropperref03_corner.calls ((rd_T73 l0 x9_2).f0) ((rd_T73 l0 x9_2).f1) ((rd_T73 l0 x9_2).f2) ((wrap64 (Int.tdiv x10_3 2)) == 1) t108 _ A14.out).mono ?_
       rintro e w21 ⟨rfl, hb⟩
       refine ⟨_, rfl, ?_⟩
       have n0_ := A_ (bkB BK101 hb); have n1_ := A_ (bkB BK102 hb); have n2_ := A_ (bkB BK103 hb); have n3_ := A_ (bkB BK104 hb); have n4_ := A_ (below_step (bW4 HB.out GE101.out GE102.out GE103.out GE104.out) hb); clear BK101 BK102 BK103 BK104 HB; have BK101 := n0_; have BK102 := n1_; have BK103 := n2_; have BK104 := n3_; have HB := n4_; clear n0_ n1_ n2_ n3_ n4_
       (try clear hb)
       (try clear hb2)
       (try clear hk)
       (try clear hi)
       refine hK.out _ _ ⟨(pw_cell_below HB.out hw105_0), (pw_cell_below HB.out hw105_1), (pw_cell_below HB.out hw105_2), (pw_cell_below HB.out hw107_0), (pw_cell_below HB.out hw107_1), (pw_cell_below HB.out hw107_2)⟩ (fun hHeld => ?_)
       clear hK K
       refine norm_ (a' := ?_) ?_ ?_
       rotate_left
       ·show Act.put _ (some 47) _ = _
        simp only [Act.put, List.setIfInBounds_toArray, List.set_cons_zero, List.set_cons_succ, i64_w, i32_w]
        rfl
       refine pr_ 16 (some 11) (mkB 18 131071) HT_ ?_; refine pr_ 17 (some 12) (mkB 18 262143) HT_ ?_
       refine done_ (done_of HT_.out (by kernel_rfl)) ?_
       try go_wp2
       have n0_ := A_ (blk_drew BK101.out); have n1_ := A_ (blk_drew BK102.out); have n2_ := A_ (blk_drew BK103.out); have n3_ := A_ (blk_drew BK104.out); have n4_ := A_ (below_drew1 HB.out); clear BK101 BK102 BK103 BK104 HB; have BK101 := n0_; have BK102 := n1_; have BK103 := n2_; have BK104 := n3_; have HB := n4_; clear n0_ n1_ n2_ n3_ n4_; have p109 : 0 ≤ (x8_1 : Int) := oD; have q109 : x8_1 < (l0.length : Int) := oD; obtain ⟨ad109, e109, hx109_0, hx109_1, hx109_2⟩ := at_T73 HR0.out x8_1 p109 q109; have hw109_2 := hx109_2; have hw109_1 := hx109_1; have hw109_0 := hx109_0
       obtain rfl : ad105 = ad109 := (by injection e109)
       replace hx109_0 := (HB.out.cell (World.block_lt_of_cell? w _ hx109_0)).trans hx109_0; replace hx109_1 := (HB.out.cell (World.block_lt_of_cell? w _ hx109_1)).trans hx109_1; replace hx109_2 := (HB.out.cell (World.block_lt_of_cell? w _ hx109_2)).trans hx109_2; replace p109 := eq_true p109; replace q109 := eq_true q109; have p110 : 0 ≤ (x9_2 : Int) := oD; have q110 : x9_2 < (l0.length : Int) := oD; obtain ⟨ad110, e110, hx110_0, hx110_1, hx110_2⟩ := at_T73 HR0.out x9_2 p110 q110; have hw110_2 := hx110_2; have hw110_1 := hx110_1; have hw110_0 := hx110_0
       obtain rfl : ad105 = ad110 := (by injection e110)
       replace hx110_0 := (HB.out.cell (World.block_lt_of_cell? w _ hx110_0)).trans hx110_0; replace hx110_1 := (HB.out.cell (World.block_lt_of_cell? w _ hx110_1)).trans hx110_1; replace hx110_2 := (HB.out.cell (World.block_lt_of_cell? w _ hx110_2)).trans hx110_2; replace p110 := eq_true p110; replace q110 := eq_true q110
       refine start_ (n := 15) (S := fun w' => w'.cell? (ad105.add ((x8_1).toNat * 3)) = some (.int .i64 ((rd_T73 l0 x8_1).f0)) ∧ w'.cell? ⟨(ad105.add ((x8_1).toNat * 3)).block, (ad105.add ((x8_1).toNat * 3)).off + 1, none⟩ = some (.int .i64 ((rd_T73 l0 x8_1).f1)) ∧ w'.cell? ⟨(ad105.add ((x8_1).toNat * 3)).block, (ad105.add ((x8_1).toNat * 3)).off + 2, none⟩ = some (.int .i64 ((rd_T73 l0 x8_1).f2)) ∧ w'.cell? (ad105.add ((x9_2).toNat * 3)) = some (.int .i64 ((rd_T73 l0 x9_2).f0)) ∧ w'.cell? ⟨(ad105.add ((x9_2).toNat * 3)).block, (ad105.add ((x9_2).toNat * 3)).off + 1, none⟩ = some (.int .i64 ((rd_T73 l0 x9_2).f1)) ∧ w'.cell? ⟨(ad105.add ((x9_2).toNat * 3)).block, (ad105.add ((x9_2).toNat * 3)).off + 2, none⟩ = some (.int .i64 ((rd_T73 l0 x9_2).f2))) (ds := []) (mkB 15 0) (by kernel_rfl) rfl rfl ⟨(pw_cell_below HB.out hw109_0), (pw_cell_below HB.out hw109_1), (pw_cell_below HB.out hw109_2), (pw_cell_below HB.out hw110_0), (pw_cell_below HB.out hw110_1), (pw_cell_below HB.out hw110_2)⟩ (fun hHeld => ?_); refine with_tabW dropperref03_slopes.tab13 dropperref03_slopes.bits13 (fun HT_ HW_ => ?_)
       generalize w21.drew = w22 at BK101 BK102 BK103 BK104 HB hx109_0 hx109_1 hx109_2 hx110_0 hx110_1 hx110_2 hHeld ⊢; refine pr_ 0 (some 48) (mkB 15 1) HT_ ?_; refine pr_ 1 (some 49) (mkB 15 3) HT_ ?_; refine pr_ 2 (some 50) (mkB 15 7) HT_ ?_; refine pr_ 3 (some 51) (mkB 15 15) HT_ ?_; refine pr_ 4 (some 52) (mkB 15 31) HT_ ?_; refine pr_ 6 (some 54) (mkB 15 95) HT_ ?_; refine pr_ 7 (some 55) (mkB 15 223) HT_ ?_; refine pr_ 8 (some 56) (mkB 15 479) HT_ ?_; refine pr_ 9 (some 57) (mkB 15 991) HT_ ?_; refine pr_ 10 (some 58) (mkB 15 2015) HT_ ?_; refine pr_ 12 (some 60) (mkB 15 6111) HT_ ?_
       refine take_ (i := 5) (N := some 53) (v := ?_) (a' := ?_) (mkB 15 6143) rfl rfl (take_ofW HT_.out HW_.out (by kernel_rfl)) (fun _ _ _ h => h) (Or.inl ⟨by rfl, ?_⟩) hHeld ?_ ?_
       rotate_left
       ·rintro w' ⟨s0, s1, s2, s3, s4, s5⟩
        go_simp
        with_reducible rfl
       rotate_left
       ·simp only [Act.put, List.setIfInBounds_toArray, List.set_cons_zero, List.set_cons_succ, i64_w, i32_w]
        rfl
       refine take_ (i := 11) (N := some 59) (v := ?_) (a' := ?_) (mkB 15 8191) rfl rfl (take_ofW HT_.out HW_.out (by kernel_rfl)) (fun _ _ _ h => h) (Or.inl ⟨by rfl, ?_⟩) hHeld ?_ ?_
       rotate_left
       ·rintro w' ⟨s0, s1, s2, s3, s4, s5⟩
        go_simp
        with_reducible rfl
       rotate_left
       ·simp only [Act.put, List.setIfInBounds_toArray, List.set_cons_zero, List.set_cons_succ, i64_w, i32_w]
        rfl
       refine one_ (i := 13) (N := some 61) (mkB 15 16383) rfl rfl (one_of HT_.out (by kernel_rfl)) (by decide) (fun K hK => ?_)
       refine goes_ Try.func74 (by kernel_rfl) rfl #[.slice (some ad105) l0.length c0, .int .i64 ((rd_T73 l0 x8_1).f0), .int .i64 t106, .int .i64 ((rd_T73 l0 x9_2).f0), .int .i64 t108] (by rfl) rfl rfl (by (try simp only [List.map_toArray, List.map_cons, List.map_nil]); first | done | rfl | (simp only [List.length_drop, List.length_take]; rfl)) ?_
       with_reducible refine (dropperref03_through.calls k3 _ _ l0 ((rd_T73 l0 x8_1).f0) t106 ((rd_T73 l0 x9_2).f0) t108 true _ ?side1 ?side2 A15.out).mono ?_
       (case side1 => exact cU (Kd.C_below HR0.out HB.out))
       (case side2 => exact HC0.out)
       rintro e w' ⟨rfl, ⟨nd, rfl⟩⟩
       refine ⟨_, rfl, ?_⟩
       refine hK.out _ _ ⟨(pw_cell_below HB.out hw109_0), (pw_cell_below HB.out hw109_1), (pw_cell_below HB.out hw109_2), (pw_cell_below HB.out hw110_0), (pw_cell_below HB.out hw110_1), (pw_cell_below HB.out hw110_2)⟩ (fun hHeld => ?_)
       clear hK K
       refine norm_ (a' := ?_) ?_ ?_
       rotate_left
       ·show Act.put _ (some 61) _ = _
        simp only [Act.put, List.setIfInBounds_toArray, List.set_cons_zero, List.set_cons_succ, i64_w, i32_w]
        rfl
       refine pr_ 14 (some 62) (mkB 15 32767) HT_ ?_
       refine done_ (done_of HT_.out (by kernel_rfl)) ?_
       try go_wp2
       (try (rw [drewN_self w22]; generalize hq_ : World.drewN w22 _ = w22; have n0_ : Aside0 (w22.heap[gb101]? = some (.cells #[.int .i64 0, .int .i64 0] 24 (0, 0))) := ⟨by rw [← hq_]; exact (bkU BK101)⟩; have n1_ : Aside0 (w22.heap[gb102]? = some (.cells #[.int .i64 0, .int .i64 0] 24 (0, 0))) := ⟨by rw [← hq_]; exact (bkU BK102)⟩; have n2_ : Aside0 (w22.heap[gb103]? = some (.cells #[.int .i64 x104000_3, .int .i64 x104001_3] 24 (0, 0))) := ⟨by rw [← hq_]; exact (bkU BK103)⟩; have n3_ : Aside0 (w22.heap[gb104]? = some (.cells #[.int .i64 x105000_3, .int .i64 x105001_3] 24 (0, 0))) := ⟨by rw [← hq_]; exact (bkU BK104)⟩; have n4_ : Aside0 (Below w.heap.size w w22) := ⟨by rw [← hq_]; exact (bW4 HB.out GE101.out GE102.out GE103.out GE104.out)⟩; clear BK101 BK102 BK103 BK104 HB hq_; have BK101 := n0_; have BK102 := n1_; have BK103 := n2_; have BK104 := n3_; have HB := n4_; clear n0_ n1_ n2_ n3_ n4_))
       have n0_ := A_ (blk_drew BK101.out); have n1_ := A_ (blk_drew BK102.out); have n2_ := A_ (blk_drew BK103.out); have n3_ := A_ (blk_drew BK104.out); have n4_ := A_ (below_drew1 HB.out); clear BK101 BK102 BK103 BK104 HB; have BK101 := n0_; have BK102 := n1_; have BK103 := n2_; have BK104 := n3_; have HB := n4_; clear n0_ n1_ n2_ n3_ n4_; have p112 : 0 ≤ (x9_2 : Int) := oD; have q112 : x9_2 < (l0.length : Int) := oD; obtain ⟨ad112, e112, hx112_0, hx112_1, hx112_2⟩ := at_T73 HR0.out x9_2 p112 q112; have hw112_2 := hx112_2; have hw112_1 := hx112_1; have hw112_0 := hx112_0
       obtain rfl : ad105 = ad112 := (by injection e112)
       replace hx112_0 := (HB.out.cell (World.block_lt_of_cell? w _ hx112_0)).trans hx112_0; replace hx112_1 := (HB.out.cell (World.block_lt_of_cell? w _ hx112_1)).trans hx112_1; replace hx112_2 := (HB.out.cell (World.block_lt_of_cell? w _ hx112_2)).trans hx112_2; replace p112 := eq_true p112; replace q112 := eq_true q112; have p113 : 0 ≤ (x8_1 : Int) := oD; have q113 : x8_1 < (l0.length : Int) := oD; obtain ⟨ad113, e113, hx113_0, hx113_1, hx113_2⟩ := at_T73 HR0.out x8_1 p113 q113; have hw113_2 := hx113_2; have hw113_1 := hx113_1; have hw113_0 := hx113_0
       obtain rfl : ad105 = ad113 := (by injection e113)
       replace hx113_0 := (HB.out.cell (World.block_lt_of_cell? w _ hx113_0)).trans hx113_0; replace hx113_1 := (HB.out.cell (World.block_lt_of_cell? w _ hx113_1)).trans hx113_1; replace hx113_2 := (HB.out.cell (World.block_lt_of_cell? w _ hx113_2)).trans hx113_2; replace p113 := eq_true p113; replace q113 := eq_true q113
       refine start_ (n := 17) (S := fun w' => True) (ds := []) (mkB 17 0) (by kernel_rfl) rfl rfl trivial (fun hHeld => ?_); refine with_tabW dropperref03_slopes.tab14 dropperref03_slopes.bits14 (fun HT_ HW_ => ?_)
       generalize w22.drew = w23 at BK101 BK102 BK103 BK104 HB hx112_0 hx112_1 hx112_2 hx113_0 hx113_1 hx113_2 hHeld ⊢; refine pr_ 0 (some 63) (mkB 17 1) HT_ ?_; refine pr_ 1 (some 64) (mkB 17 3) HT_ ?_; refine pr_ 3 (some 66) (mkB 17 11) HT_ ?_; refine pr_ 4 (some 67) (mkB 17 27) HT_ ?_; refine pr_ 8 (some 71) (mkB 17 283) HT_ ?_; refine pr_ 9 (some 72) (mkB 17 795) HT_ ?_
       refine inv_at [2, 5, 6, 7, 10, 11, 12, 13, 14, 15, 16] (fun a0_ b a w' => ∃ (gb116 : Nat) (m15_ : Value), a = putSel a0_ b [(2, 65, .int .i64 (wrap64 (t108 - t106))), (5, 68, .pointer (some (ad105.add ((x9_2).toNat * 3)))), (6, 69, .pointer (some (ad105.add ((x9_2).toNat * 3)))), (7, 70, .int .i64 ((rd_T73 l0 x9_2).f0)), (10, 73, .pointer (some (ad105.add ((x8_1).toNat * 3)))), (11, 74, .pointer (some (ad105.add ((x8_1).toNat * 3)))), (12, 75, .int .i64 ((rd_T73 l0 x8_1).f0)), (13, 76, .int .i64 (wrap64 (((rd_T73 l0 x9_2).f0) - ((rd_T73 l0 x8_1).f0)))), (14, 77, .agg #[.int .i64 t114, .int .i64 t115]), (15, 13, m15_)] ∧ (w'.heap[gb101]? = some (.cells #[.int .i64 0, .int .i64 0] 24 (0, 0))) ∧ (w'.heap[gb102]? = some (.cells #[.int .i64 0, .int .i64 0] 24 (0, 0))) ∧ (w'.heap[gb103]? = some (.cells #[.int .i64 x104000_3, .int .i64 x104001_3] 24 (0, 0))) ∧ (w'.heap[gb104]? = some (.cells #[.int .i64 x105000_3, .int .i64 x105001_3] 24 (0, 0))) ∧ (Below w.heap.size w w') ∧ (b 15 = true → b 16 = false → w'.heap[gb116]? = some (.cells #[.int .i64 0, .int .i64 0] 24 (0, 0))) ∧ (b 15 = true → w.heap.size ≤ gb116) ∧ (b 15 = true → w.heap.size ≤ gb116) ∧ (b 15 = true → gb101 ≠ gb116) ∧ (b 15 = true → gb116 ≠ gb101) ∧ (b 15 = true → gb102 ≠ gb116) ∧ (b 15 = true → gb116 ≠ gb102) ∧ (b 15 = true → gb103 ≠ gb116) ∧ (b 15 = true → gb116 ≠ gb103) ∧ (b 15 = true → gb104 ≠ gb116) ∧ (b 15 = true → gb116 ≠ gb104) ∧ (b 16 = true → w'.heap[gb116]? = some (.cells #[.int .i64 t114, .int .i64 t115] 24 (0, 0))) ∧ (b 15 = true → (m15_ : Value) = .pointer (some ⟨gb116, 0, none⟩))) HT_.out HW_.out (by kernel_rfl) (by kernel_rfl) ?_ ?_ ?_
       ·exact ⟨0, .bool false, by simp only [putSel, Bool.false_eq_true, if_false], BK101.out, BK102.out, BK103.out, BK104.out, HB.out, fun h_ => absurd h_ (by decide), fun h_ => absurd h_ (by decide), fun h_ => absurd h_ (by decide), fun h_ => absurd h_ (by decide), fun h_ => absurd h_ (by decide), fun h_ => absurd h_ (by decide), fun h_ => absurd h_ (by decide), fun h_ => absurd h_ (by decide), fun h_ => absurd h_ (by decide), fun h_ => absurd h_ (by decide), fun h_ => absurd h_ (by decide), fun h_ => absurd h_ (by decide), fun h_ => absurd h_ (by decide)⟩
       ·skip
        clear BK101 BK102 BK103 BK104 HB
        refine steps_cons ?_ ?_
        ·rintro b a w' ⟨gb116, m15_, ha, Q_BK101, Q_BK102, Q_BK103, Q_BK104, Q_HB, Q_BK116, Q_GW116, Q_GE116, Q_NB101_116, Q_NB116_101, Q_NB102_116, Q_NB116_102, Q_NB103_116, Q_NB116_103, Q_NB104_116, Q_NB116_104, Q_BK116_e16, Q_X15_⟩ hb_ hon hoff
         refine ⟨_, rfl, fun K hK => ?_⟩
         have e63 : a.tmps[63]? = some (.int .i64 t108) := by rw [ha]; exact (putSel_off rfl).trans rfl
         have e64 : a.tmps[64]? = some (.int .i64 t106) := by rw [ha]; exact (putSel_off rfl).trans rfl
         replace ha := A_ ha; have BK101 := A_ Q_BK101; have BK102 := A_ Q_BK102; have BK103 := A_ Q_BK103; have BK104 := A_ Q_BK104; have HB := A_ Q_HB
         refine value_ (w1 := w') (v := .int .i64 (wrap64 (t108 - t106))) (by rfl) rfl ?_ ?_
         ·go_simp
          (try simp only [i64_w])
          try rfl
         refine hK.out _ _ ⟨gb116, m15_, (by rw [ha.out]; exact putSel_upk 0 hb_ rfl rfl rfl), Q_BK101, Q_BK102, Q_BK103, Q_BK104, Q_HB, Q_BK116, Q_GW116, Q_GE116, Q_NB101_116, Q_NB116_101, Q_NB102_116, Q_NB116_102, Q_NB103_116, Q_NB116_103, Q_NB104_116, Q_NB116_104, fun h0_ => absurd ((hoff 16 (by kernel_rfl)).symm.trans h0_) (by decide), Q_X15_⟩
        refine steps_cons ?_ ?_
        ·rintro b a w' ⟨gb116, m15_, ha, Q_BK101, Q_BK102, Q_BK103, Q_BK104, Q_HB, Q_BK116, Q_GW116, Q_GE116, Q_NB101_116, Q_NB116_101, Q_NB102_116, Q_NB116_102, Q_NB103_116, Q_NB116_103, Q_NB104_116, Q_NB116_104, Q_BK116_e16, Q_X15_⟩ hb_ hon hoff
         refine ⟨_, rfl, fun K hK => ?_⟩
         have e66 : a.tmps[66]? = some (.slice (some ad105) l0.length c0) := by rw [ha]; exact (putSel_off rfl).trans rfl
         have e67 : a.tmps[67]? = some (.int .i64 x9_2) := by rw [ha]; exact (putSel_off rfl).trans rfl
         replace ha := A_ ha; have BK101 := A_ Q_BK101; have BK102 := A_ Q_BK102; have BK103 := A_ Q_BK103; have BK104 := A_ Q_BK104; have HB := A_ Q_HB; have hs0_ : w'.cell? (ad105.add ((x9_2).toNat * 3)) = some (.int .i64 ((rd_T73 l0 x9_2).f0)) := (pw_cell_below HB.out hw112_0); have hs1_ : w'.cell? ⟨(ad105.add ((x9_2).toNat * 3)).block, (ad105.add ((x9_2).toNat * 3)).off + 1, none⟩ = some (.int .i64 ((rd_T73 l0 x9_2).f1)) := (pw_cell_below HB.out hw112_1); have hs2_ : w'.cell? ⟨(ad105.add ((x9_2).toNat * 3)).block, (ad105.add ((x9_2).toNat * 3)).off + 2, none⟩ = some (.int .i64 ((rd_T73 l0 x9_2).f2)) := (pw_cell_below HB.out hw112_2)
         refine value_ (w1 := w') (v := .pointer (some (ad105.add ((x9_2).toNat * 3)))) (by rfl) rfl ?_ ?_
         ·go_simp
          (try simp only [i64_w])
          try rfl
         refine hK.out _ _ ⟨gb116, m15_, (by rw [ha.out]; exact putSel_upk 1 hb_ rfl rfl rfl), Q_BK101, Q_BK102, Q_BK103, Q_BK104, Q_HB, Q_BK116, Q_GW116, Q_GE116, Q_NB101_116, Q_NB116_101, Q_NB102_116, Q_NB116_102, Q_NB103_116, Q_NB116_103, Q_NB104_116, Q_NB116_104, fun h0_ => absurd ((hoff 16 (by kernel_rfl)).symm.trans h0_) (by decide), Q_X15_⟩
        refine steps_cons ?_ ?_
        ·rintro b a w' ⟨gb116, m15_, ha, Q_BK101, Q_BK102, Q_BK103, Q_BK104, Q_HB, Q_BK116, Q_GW116, Q_GE116, Q_NB101_116, Q_NB116_101, Q_NB102_116, Q_NB116_102, Q_NB103_116, Q_NB116_103, Q_NB104_116, Q_NB116_104, Q_BK116_e16, Q_X15_⟩ hb_ hon hoff
         refine ⟨_, rfl, fun K hK => ?_⟩
         have e68 : a.tmps[68]? = some (.pointer (some (ad105.add ((x9_2).toNat * 3)))) := by rw [ha]; exact putSel_on (e := (5, 68, .pointer (some (ad105.add ((x9_2).toNat * 3))))) 1 rfl rfl (hon 5 (by kernel_rfl)) rfl
         replace ha := A_ ha; have BK101 := A_ Q_BK101; have BK102 := A_ Q_BK102; have BK103 := A_ Q_BK103; have BK104 := A_ Q_BK104; have HB := A_ Q_HB
         refine value_ (w1 := w') (v := .pointer (some (ad105.add ((x9_2).toNat * 3)))) (by rfl) rfl ?_ ?_
         ·go_simp
          (try simp only [i64_w])
          try rfl
         refine hK.out _ _ ⟨gb116, m15_, (by rw [ha.out]; exact putSel_upk 2 hb_ rfl rfl rfl), Q_BK101, Q_BK102, Q_BK103, Q_BK104, Q_HB, Q_BK116, Q_GW116, Q_GE116, Q_NB101_116, Q_NB116_101, Q_NB102_116, Q_NB116_102, Q_NB103_116, Q_NB116_103, Q_NB104_116, Q_NB116_104, fun h0_ => absurd ((hoff 16 (by kernel_rfl)).symm.trans h0_) (by decide), Q_X15_⟩
        refine steps_cons ?_ ?_
        ·rintro b a w' ⟨gb116, m15_, ha, Q_BK101, Q_BK102, Q_BK103, Q_BK104, Q_HB, Q_BK116, Q_GW116, Q_GE116, Q_NB101_116, Q_NB116_101, Q_NB102_116, Q_NB116_102, Q_NB103_116, Q_NB116_103, Q_NB104_116, Q_NB116_104, Q_BK116_e16, Q_X15_⟩ hb_ hon hoff
         refine ⟨_, rfl, fun K hK => ?_⟩
         have e69 : a.tmps[69]? = some (.pointer (some (ad105.add ((x9_2).toNat * 3)))) := by rw [ha]; exact putSel_on (e := (6, 69, .pointer (some (ad105.add ((x9_2).toNat * 3))))) 2 rfl rfl (hon 6 (by kernel_rfl)) rfl
         replace ha := A_ ha; have BK101 := A_ Q_BK101; have BK102 := A_ Q_BK102; have BK103 := A_ Q_BK103; have BK104 := A_ Q_BK104; have HB := A_ Q_HB; have hs0_ : w'.cell? (ad105.add ((x9_2).toNat * 3)) = some (.int .i64 ((rd_T73 l0 x9_2).f0)) := (pw_cell_below HB.out hw112_0); have hs1_ : w'.cell? ⟨(ad105.add ((x9_2).toNat * 3)).block, (ad105.add ((x9_2).toNat * 3)).off + 1, none⟩ = some (.int .i64 ((rd_T73 l0 x9_2).f1)) := (pw_cell_below HB.out hw112_1); have hs2_ : w'.cell? ⟨(ad105.add ((x9_2).toNat * 3)).block, (ad105.add ((x9_2).toNat * 3)).off + 2, none⟩ = some (.int .i64 ((rd_T73 l0 x9_2).f2)) := (pw_cell_below HB.out hw112_2)
         refine value_ (w1 := w') (v := .int .i64 ((rd_T73 l0 x9_2).f0)) (by rfl) rfl ?_ ?_
         ·go_simp
          (try simp only [i64_w])
          try rfl
         refine hK.out _ _ ⟨gb116, m15_, (by rw [ha.out]; exact putSel_upk 3 hb_ rfl rfl rfl), Q_BK101, Q_BK102, Q_BK103, Q_BK104, Q_HB, Q_BK116, Q_GW116, Q_GE116, Q_NB101_116, Q_NB116_101, Q_NB102_116, Q_NB116_102, Q_NB103_116, Q_NB116_103, Q_NB104_116, Q_NB116_104, fun h0_ => absurd ((hoff 16 (by kernel_rfl)).symm.trans h0_) (by decide), Q_X15_⟩
        refine steps_cons ?_ ?_
        ·rintro b a w' ⟨gb116, m15_, ha, Q_BK101, Q_BK102, Q_BK103, Q_BK104, Q_HB, Q_BK116, Q_GW116, Q_GE116, Q_NB101_116, Q_NB116_101, Q_NB102_116, Q_NB116_102, Q_NB103_116, Q_NB116_103, Q_NB104_116, Q_NB116_104, Q_BK116_e16, Q_X15_⟩ hb_ hon hoff
         refine ⟨_, rfl, fun K hK => ?_⟩
         have e71 : a.tmps[71]? = some (.slice (some ad105) l0.length c0) := by rw [ha]; exact (putSel_off rfl).trans rfl
         have e72 : a.tmps[72]? = some (.int .i64 x8_1) := by rw [ha]; exact (putSel_off rfl).trans rfl
         replace ha := A_ ha; have BK101 := A_ Q_BK101; have BK102 := A_ Q_BK102; have BK103 := A_ Q_BK103; have BK104 := A_ Q_BK104; have HB := A_ Q_HB; have hs3_ : w'.cell? (ad105.add ((x8_1).toNat * 3)) = some (.int .i64 ((rd_T73 l0 x8_1).f0)) := (pw_cell_below HB.out hw113_0); have hs4_ : w'.cell? ⟨(ad105.add ((x8_1).toNat * 3)).block, (ad105.add ((x8_1).toNat * 3)).off + 1, none⟩ = some (.int .i64 ((rd_T73 l0 x8_1).f1)) := (pw_cell_below HB.out hw113_1); have hs5_ : w'.cell? ⟨(ad105.add ((x8_1).toNat * 3)).block, (ad105.add ((x8_1).toNat * 3)).off + 2, none⟩ = some (.int .i64 ((rd_T73 l0 x8_1).f2)) := (pw_cell_below HB.out hw113_2)
         refine value_ (w1 := w') (v := .pointer (some (ad105.add ((x8_1).toNat * 3)))) (by rfl) rfl ?_ ?_
         ·go_simp
          (try simp only [i64_w])
          try rfl
         refine hK.out _ _ ⟨gb116, m15_, (by rw [ha.out]; exact putSel_upk 4 hb_ rfl rfl rfl), Q_BK101, Q_BK102, Q_BK103, Q_BK104, Q_HB, Q_BK116, Q_GW116, Q_GE116, Q_NB101_116, Q_NB116_101, Q_NB102_116, Q_NB116_102, Q_NB103_116, Q_NB116_103, Q_NB104_116, Q_NB116_104, fun h0_ => absurd ((hoff 16 (by kernel_rfl)).symm.trans h0_) (by decide), Q_X15_⟩
        refine steps_cons ?_ ?_
        ·rintro b a w' ⟨gb116, m15_, ha, Q_BK101, Q_BK102, Q_BK103, Q_BK104, Q_HB, Q_BK116, Q_GW116, Q_GE116, Q_NB101_116, Q_NB116_101, Q_NB102_116, Q_NB116_102, Q_NB103_116, Q_NB116_103, Q_NB104_116, Q_NB116_104, Q_BK116_e16, Q_X15_⟩ hb_ hon hoff
         refine ⟨_, rfl, fun K hK => ?_⟩
         have e73 : a.tmps[73]? = some (.pointer (some (ad105.add ((x8_1).toNat * 3)))) := by rw [ha]; exact putSel_on (e := (10, 73, .pointer (some (ad105.add ((x8_1).toNat * 3))))) 4 rfl rfl (hon 10 (by kernel_rfl)) rfl
         replace ha := A_ ha; have BK101 := A_ Q_BK101; have BK102 := A_ Q_BK102; have BK103 := A_ Q_BK103; have BK104 := A_ Q_BK104; have HB := A_ Q_HB
         refine value_ (w1 := w') (v := .pointer (some (ad105.add ((x8_1).toNat * 3)))) (by rfl) rfl ?_ ?_
         ·go_simp
          (try simp only [i64_w])
          try rfl
         refine hK.out _ _ ⟨gb116, m15_, (by rw [ha.out]; exact putSel_upk 5 hb_ rfl rfl rfl), Q_BK101, Q_BK102, Q_BK103, Q_BK104, Q_HB, Q_BK116, Q_GW116, Q_GE116, Q_NB101_116, Q_NB116_101, Q_NB102_116, Q_NB116_102, Q_NB103_116, Q_NB116_103, Q_NB104_116, Q_NB116_104, fun h0_ => absurd ((hoff 16 (by kernel_rfl)).symm.trans h0_) (by decide), Q_X15_⟩
        refine steps_cons ?_ ?_
        ·rintro b a w' ⟨gb116, m15_, ha, Q_BK101, Q_BK102, Q_BK103, Q_BK104, Q_HB, Q_BK116, Q_GW116, Q_GE116, Q_NB101_116, Q_NB116_101, Q_NB102_116, Q_NB116_102, Q_NB103_116, Q_NB116_103, Q_NB104_116, Q_NB116_104, Q_BK116_e16, Q_X15_⟩ hb_ hon hoff
         refine ⟨_, rfl, fun K hK => ?_⟩
         have e74 : a.tmps[74]? = some (.pointer (some (ad105.add ((x8_1).toNat * 3)))) := by rw [ha]; exact putSel_on (e := (11, 74, .pointer (some (ad105.add ((x8_1).toNat * 3))))) 5 rfl rfl (hon 11 (by kernel_rfl)) rfl
         replace ha := A_ ha; have BK101 := A_ Q_BK101; have BK102 := A_ Q_BK102; have BK103 := A_ Q_BK103; have BK104 := A_ Q_BK104; have HB := A_ Q_HB; have hs3_ : w'.cell? (ad105.add ((x8_1).toNat * 3)) = some (.int .i64 ((rd_T73 l0 x8_1).f0)) := (pw_cell_below HB.out hw113_0); have hs4_ : w'.cell? ⟨(ad105.add ((x8_1).toNat * 3)).block, (ad105.add ((x8_1).toNat * 3)).off + 1, none⟩ = some (.int .i64 ((rd_T73 l0 x8_1).f1)) := (pw_cell_below HB.out hw113_1); have hs5_ : w'.cell? ⟨(ad105.add ((x8_1).toNat * 3)).block, (ad105.add ((x8_1).toNat * 3)).off + 2, none⟩ = some (.int .i64 ((rd_T73 l0 x8_1).f2)) := (pw_cell_below HB.out hw113_2)
         refine value_ (w1 := w') (v := .int .i64 ((rd_T73 l0 x8_1).f0)) (by rfl) rfl ?_ ?_
         ·go_simp
          (try simp only [i64_w])
          try rfl
         refine hK.out _ _ ⟨gb116, m15_, (by rw [ha.out]; exact putSel_upk 6 hb_ rfl rfl rfl), Q_BK101, Q_BK102, Q_BK103, Q_BK104, Q_HB, Q_BK116, Q_GW116, Q_GE116, Q_NB101_116, Q_NB116_101, Q_NB102_116, Q_NB116_102, Q_NB103_116, Q_NB116_103, Q_NB104_116, Q_NB116_104, fun h0_ => absurd ((hoff 16 (by kernel_rfl)).symm.trans h0_) (by decide), Q_X15_⟩
        refine steps_cons ?_ ?_
        ·rintro b a w' ⟨gb116, m15_, ha, Q_BK101, Q_BK102, Q_BK103, Q_BK104, Q_HB, Q_BK116, Q_GW116, Q_GE116, Q_NB101_116, Q_NB116_101, Q_NB102_116, Q_NB116_102, Q_NB103_116, Q_NB116_103, Q_NB104_116, Q_NB116_104, Q_BK116_e16, Q_X15_⟩ hb_ hon hoff
         refine ⟨_, rfl, fun K hK => ?_⟩
         have e70 : a.tmps[70]? = some (.int .i64 ((rd_T73 l0 x9_2).f0)) := by rw [ha]; exact putSel_on (e := (7, 70, .int .i64 ((rd_T73 l0 x9_2).f0))) 3 rfl rfl (hon 7 (by kernel_rfl)) rfl
         have e75 : a.tmps[75]? = some (.int .i64 ((rd_T73 l0 x8_1).f0)) := by rw [ha]; exact putSel_on (e := (12, 75, .int .i64 ((rd_T73 l0 x8_1).f0))) 6 rfl rfl (hon 12 (by kernel_rfl)) rfl
         replace ha := A_ ha; have BK101 := A_ Q_BK101; have BK102 := A_ Q_BK102; have BK103 := A_ Q_BK103; have BK104 := A_ Q_BK104; have HB := A_ Q_HB
         refine value_ (w1 := w') (v := .int .i64 (wrap64 (((rd_T73 l0 x9_2).f0) - ((rd_T73 l0 x8_1).f0)))) (by rfl) rfl ?_ ?_
         ·go_simp
          (try simp only [i64_w])
          try rfl
         refine hK.out _ _ ⟨gb116, m15_, (by rw [ha.out]; exact putSel_upk 7 hb_ rfl rfl rfl), Q_BK101, Q_BK102, Q_BK103, Q_BK104, Q_HB, Q_BK116, Q_GW116, Q_GE116, Q_NB101_116, Q_NB116_101, Q_NB102_116, Q_NB116_102, Q_NB103_116, Q_NB116_103, Q_NB104_116, Q_NB116_104, fun h0_ => absurd ((hoff 16 (by kernel_rfl)).symm.trans h0_) (by decide), Q_X15_⟩
        refine steps_cons ?_ ?_
        ·rintro b a w' ⟨gb116, m15_, ha, Q_BK101, Q_BK102, Q_BK103, Q_BK104, Q_HB, Q_BK116, Q_GW116, Q_GE116, Q_NB101_116, Q_NB116_101, Q_NB102_116, Q_NB116_102, Q_NB103_116, Q_NB116_103, Q_NB104_116, Q_NB116_104, Q_BK116_e16, Q_X15_⟩ hb_ hon hoff
         refine ⟨_, rfl, fun K hK => ?_⟩
         have e65 : a.tmps[65]? = some (.int .i64 (wrap64 (t108 - t106))) := by rw [ha]; exact putSel_on (e := (2, 65, .int .i64 (wrap64 (t108 - t106)))) 0 rfl rfl (hon 2 (by kernel_rfl)) rfl
         have e76 : a.tmps[76]? = some (.int .i64 (wrap64 (((rd_T73 l0 x9_2).f0) - ((rd_T73 l0 x8_1).f0)))) := by rw [ha]; exact putSel_on (e := (13, 76, .int .i64 (wrap64 (((rd_T73 l0 x9_2).f0) - ((rd_T73 l0 x8_1).f0))))) 7 rfl rfl (hon 13 (by kernel_rfl)) rfl
         replace ha := A_ ha; have BK101 := A_ Q_BK101; have BK102 := A_ Q_BK102; have BK103 := A_ Q_BK103; have BK104 := A_ Q_BK104; have HB := A_ Q_HB
         refine goes_ Try.func64 (by kernel_rfl) rfl #[.int .i64 (wrap64 (t108 - t106)), .int .i64 (wrap64 (((rd_T73 l0 x9_2).f0) - ((rd_T73 l0 x8_1).f0)))] (by rfl) rfl rfl (by first | (simp only [List.map_toArray, List.map_cons, List.map_nil, Act.eval, Array.getD_eq_getD_getElem?, Option.getD_some, e65, e76]; done) | (simp only [List.map_toArray, List.map_cons, List.map_nil, Act.eval, Array.getD_eq_getD_getElem?, Option.getD_some, e65, e76]; rfl)) ?_
         with_reducible refine (dropperref03_ratio.calls k3 (wrap64 (t108 - t106)) (wrap64 (((rd_T73 l0 x9_2).f0) - ((rd_T73 l0 x8_1).f0))) t114 t115 _ A17.out).mono ?_
         rintro e w24 ⟨rfl, hb⟩
         refine ⟨_, rfl, ?_⟩
         have n0_ := A_ (bkB BK101 hb); have n1_ := A_ (bkB BK102 hb); have n2_ := A_ (bkB BK103 hb); have n3_ := A_ (bkB BK104 hb); have n4_ := A_ (below_step (bW4 HB.out GE101.out GE102.out GE103.out GE104.out) hb)
         have z_BK116 := fun (h0_ : b 15 = true) (h1_ : b 16 = false) => (show w24.heap[gb116]? = some (.cells #[.int .i64 0, .int .i64 0] 24 (0, 0)) from by first | exact (blk_below (g := gb116) (o := .cells #[.int .i64 0, .int .i64 0] 24 (0, 0)) (by (with_reducible repeat (first | refine blk_drewN ?_ _ | refine blk_drew ?_ | refine blk_alloc ?_ _)); exact (Q_BK116 h0_ h1_)) hb))
         clear BK101; clear BK102 BK103 BK104 HB; have BK101 := n0_; have BK102 := n1_; have BK103 := n2_; have BK104 := n3_; have HB := n4_; clear n0_ n1_ n2_ n3_ n4_
         (try clear hb)
         (try clear hb2)
         (try clear hk)
         (try clear hi)
         refine hK.out _ _ ⟨gb116, m15_, (by rw [ha.out]; exact putSel_upk 8 hb_ rfl rfl rfl), (bkU BK101), (bkU BK102), (bkU BK103), (bkU BK104), (bW4 HB.out GE101.out GE102.out GE103.out GE104.out), z_BK116, Q_GW116, Q_GE116, Q_NB101_116, Q_NB116_101, Q_NB102_116, Q_NB116_102, Q_NB103_116, Q_NB116_103, Q_NB104_116, Q_NB116_104, fun h0_ => absurd ((hoff 16 (by kernel_rfl)).symm.trans h0_) (by decide), Q_X15_⟩
        refine steps_cons ?_ ?_
        ·rintro b a w' ⟨gb116, m15_, ha, Q_BK101, Q_BK102, Q_BK103, Q_BK104, Q_HB, Q_BK116, Q_GW116, Q_GE116, Q_NB101_116, Q_NB116_101, Q_NB102_116, Q_NB116_102, Q_NB103_116, Q_NB116_103, Q_NB104_116, Q_NB116_104, Q_BK116_e16, Q_X15_⟩ hb_ hon hoff
         refine ⟨_, rfl, fun K hK => ?_⟩
         replace ha := A_ ha; have BK101 := A_ Q_BK101; have BK102 := A_ Q_BK102; have BK103 := A_ Q_BK103; have BK104 := A_ Q_BK104; have HB := A_ Q_HB
         refine box_step ?hg (N := 13) ?hd (cs := #[.int .i64 0, .int .i64 0]) (t := 24) ?hr ?_; (case hd => rfl); (case hg => rfl); (case hr => first | (go_simp; done) | (go_simp; rfl))
         intro gb116 hg w24 hbox hb
         have n0_ := A_ (bkB BK101 hb); have n1_ := A_ (bkB BK102 hb); have n2_ := A_ (bkB BK103 hb); have n3_ := A_ (bkB BK104 hb); have n4_ := A_ (below_step (bW4 HB.out GE101.out GE102.out GE103.out GE104.out) hb); have n5_ := A_ (hbox); have n6_ := A_ ((szG hg (bW4 HB.out GE101.out GE102.out GE103.out GE104.out))); have n7_ := A_ ((szG hg (bW4 HB.out GE101.out GE102.out GE103.out GE104.out))); have n8_ := A_ ((bkL BK101 hg : gb101 ≠ gb116)); have n9_ := A_ ((bkG BK101 hg : gb116 ≠ gb101)); have n10_ := A_ ((bkL BK102 hg : gb102 ≠ gb116)); have n11_ := A_ ((bkG BK102 hg : gb116 ≠ gb102)); have n12_ := A_ ((bkL BK103 hg : gb103 ≠ gb116)); have n13_ := A_ ((bkG BK103 hg : gb116 ≠ gb103)); have n14_ := A_ ((bkL BK104 hg : gb104 ≠ gb116)); have n15_ := A_ ((bkG BK104 hg : gb116 ≠ gb104)); clear BK101 BK102 BK103 BK104 HB; have BK101 := n0_; have BK102 := n1_; have BK103 := n2_; have BK104 := n3_; have HB := n4_; have BK116 := n5_; have GW116 := n6_; have GE116 := n7_; have NB101_116 := n8_; have NB116_101 := n9_; have NB102_116 := n10_; have NB116_102 := n11_; have NB103_116 := n12_; have NB116_103 := n13_; have NB104_116 := n14_; have NB116_104 := n15_; clear n0_ n1_ n2_ n3_ n4_ n5_ n6_ n7_ n8_ n9_ n10_ n11_ n12_ n13_ n14_ n15_ hb hbox hg
         refine hK.out _ _ ⟨gb116, (.pointer (some ⟨gb116, 0, none⟩)), (by rw [ha.out]; exact putSel_upk 9 hb_ rfl rfl rfl), (bkU BK101), (bkU BK102), (bkU BK103), (bkU BK104), (bW5 HB.out GE101.out GE102.out GE103.out GE104.out GE116.out), fun _ _ => (bkU BK116), fun _ => GW116.out, fun _ => GE116.out, fun _ => NB101_116.out, fun _ => NB116_101.out, fun _ => NB102_116.out, fun _ => NB116_102.out, fun _ => NB103_116.out, fun _ => NB116_103.out, fun _ => NB104_116.out, fun _ => NB116_104.out, fun h0_ => absurd ((hoff 16 (by kernel_rfl)).symm.trans h0_) (by decide), fun _ => rfl⟩
        refine steps_cons ?_ ?_
        ·rintro b a w' ⟨gb116, m15_, ha, Q_BK101, Q_BK102, Q_BK103, Q_BK104, Q_HB, Q_BK116, Q_GW116, Q_GE116, Q_NB101_116, Q_NB116_101, Q_NB102_116, Q_NB116_102, Q_NB103_116, Q_NB116_103, Q_NB104_116, Q_NB116_104, Q_BK116_e16, Q_X15_⟩ hb_ hon hoff
         refine ⟨_, rfl, fun K hK => ?_⟩
         have e13 : a.tmps[13]? = some (m15_) := by rw [ha]; exact putSel_on (e := (15, 13, m15_)) 9 rfl rfl (hon 15 (by kernel_rfl)) rfl
         rw [Q_X15_ (hon 15 (by kernel_rfl))] at e13
         have e77 : a.tmps[77]? = some (.agg #[.int .i64 t114, .int .i64 t115]) := by rw [ha]; exact putSel_on (e := (14, 77, .agg #[.int .i64 t114, .int .i64 t115])) 8 rfl rfl (hon 14 (by kernel_rfl)) rfl
         replace ha := A_ ha; have BK101 := A_ Q_BK101; have BK102 := A_ Q_BK102; have BK103 := A_ Q_BK103; have BK104 := A_ Q_BK104; have HB := A_ Q_HB
         have BK116 := A_ (Q_BK116 (hon 15 (by kernel_rfl)) hb_)
         have GW116 := A_ (Q_GW116 (hon 15 (by kernel_rfl)))
         have GE116 := A_ (Q_GE116 (hon 15 (by kernel_rfl)))
         have NB101_116 := A_ (Q_NB101_116 (hon 15 (by kernel_rfl)))
         have NB116_101 := A_ (Q_NB116_101 (hon 15 (by kernel_rfl)))
         have NB102_116 := A_ (Q_NB102_116 (hon 15 (by kernel_rfl)))
         have NB116_102 := A_ (Q_NB116_102 (hon 15 (by kernel_rfl)))
         have NB103_116 := A_ (Q_NB103_116 (hon 15 (by kernel_rfl)))
         have NB116_103 := A_ (Q_NB116_103 (hon 15 (by kernel_rfl)))
         have NB104_116 := A_ (Q_NB104_116 (hon 15 (by kernel_rfl)))
         have NB116_104 := A_ (Q_NB116_104 (hon 15 (by kernel_rfl)))
         have hs27 : w'.cell? ⟨gb116, 0, none⟩ = some (.int .i64 0) := (blk_cell BK116.out 0).trans rfl; have hfs27 := blk_frozen BK116.out 0; have hns27_0 := NB101_116.out; have hns27_1 := NB102_116.out; have hns27_2 := NB103_116.out; have hns27_3 := NB104_116.out; have hms27_0 := NB116_101.out; have hms27_1 := NB116_102.out; have hms27_2 := NB116_103.out; have hms27_3 := NB116_104.out; have hs28 : w'.cell? ⟨gb116, 1, none⟩ = some (.int .i64 0) := (blk_cell BK116.out 1).trans rfl; have hfs28 := blk_frozen BK116.out 1; have hns28_0 := NB101_116.out; have hns28_1 := NB102_116.out; have hns28_2 := NB103_116.out; have hns28_3 := NB104_116.out; have hms28_0 := NB116_101.out; have hms28_1 := NB116_102.out; have hms28_2 := NB116_103.out; have hms28_3 := NB116_104.out
         refine skip_ (w1 := ?_) (by rfl) rfl ?_ ?_
         rotate_left
         ·go_simp
          rfl
         refine hK.out _ _ ⟨gb116, m15_, (by rw [ha.out]; exact putSel_none (v := undef) rfl), (bkF2 BK101 NB101_116), (bkF2 BK102 NB102_116), (bkF2 BK103 NB103_116), (bkF2 BK104 NB104_116), (bW5 HB.out GE101.out GE102.out GE103.out GE104.out GE116.out), fun _ h1_ => absurd ((up_self b 16).symm.trans h1_) (by decide), fun _ => GW116.out, fun _ => GE116.out, fun _ => NB101_116.out, fun _ => NB116_101.out, fun _ => NB102_116.out, fun _ => NB116_102.out, fun _ => NB103_116.out, fun _ => NB116_103.out, fun _ => NB104_116.out, fun _ => NB116_104.out, fun _ => (by (with_reducible repeat (first | refine blk_drewN ?_ _ | refine blk_drew ?_ | refine blk_alloc ?_ _)); refine blk_put (cs := #[.int .i64 t114, .int .i64 0]) ?_ 1 _ rfl; (with_reducible repeat (first | refine blk_drewN ?_ _ | refine blk_drew ?_ | refine blk_alloc ?_ _)); refine blk_put (cs := #[.int .i64 0, .int .i64 0]) ?_ 0 _ rfl; exact bkU BK116), Q_X15_⟩
        exact steps_nil
       rintro b a w28 hall ⟨gb116, m15_, ha, Q_BK101, Q_BK102, Q_BK103, Q_BK104, Q_HB, Q_BK116, Q_GW116, Q_GE116, Q_NB101_116, Q_NB116_101, Q_NB102_116, Q_NB116_102, Q_NB103_116, Q_NB116_103, Q_NB104_116, Q_NB116_104, Q_BK116_e16, Q_X15_⟩
       clear BK101 BK102 BK103 BK104 HB
       have hb2_ := hall 2 (by kernel_rfl)
       have hb5_ := hall 5 (by kernel_rfl)
       have hb6_ := hall 6 (by kernel_rfl)
       have hb7_ := hall 7 (by kernel_rfl)
       have hb10_ := hall 10 (by kernel_rfl)
       have hb11_ := hall 11 (by kernel_rfl)
       have hb12_ := hall 12 (by kernel_rfl)
       have hb13_ := hall 13 (by kernel_rfl)
       have hb14_ := hall 14 (by kernel_rfl)
       have hb15_ := hall 15 (by kernel_rfl)
       have hb16_ := hall 16 (by kernel_rfl)
       subst ha; obtain rfl := Q_X15_ hb15_; simp only [putSel, hb2_, hb5_, hb6_, hb7_, hb10_, hb11_, hb12_, hb13_, hb14_, hb15_, hb16_, if_true, Act.put, List.setIfInBounds_toArray, List.set_cons_zero, List.set_cons_succ]; have BK101 := A_ Q_BK101; clear Q_BK101; have BK102 := A_ Q_BK102; clear Q_BK102; have BK103 := A_ Q_BK103; clear Q_BK103; have BK104 := A_ Q_BK104; clear Q_BK104; have HB := A_ Q_HB; clear Q_HB Q_BK116; have GW116 := A_ (Q_GW116 hb15_); clear Q_GW116; have GE116 := A_ (Q_GE116 hb15_); clear Q_GE116; have NB101_116 := A_ (Q_NB101_116 hb15_); clear Q_NB101_116; have NB116_101 := A_ (Q_NB116_101 hb15_); clear Q_NB116_101; have NB102_116 := A_ (Q_NB102_116 hb15_); clear Q_NB102_116; have NB116_102 := A_ (Q_NB116_102 hb15_); clear Q_NB116_102; have NB103_116 := A_ (Q_NB103_116 hb15_); clear Q_NB103_116; have NB116_103 := A_ (Q_NB116_103 hb15_); clear Q_NB116_103; have NB104_116 := A_ (Q_NB104_116 hb15_); clear Q_NB104_116; have NB116_104 := A_ (Q_NB116_104 hb15_); clear Q_NB116_104; have BK116 := A_ (Q_BK116_e16 hb16_); clear Q_BK116_e16 hall hb2_ hb5_ hb6_ hb7_ hb10_ hb11_ hb12_ hb13_ hb14_ hb15_ hb16_
       go_upto_region 15 with (fail)
       go_cut [84] (fun v84 wc => ∃ (kq : Nat) (x84_17 : Bool), v84 = .bool x84_17 ∧ Aside0 (dropperref03_slopes.j3 kq l0 x7_3 x8_1 x9_2 x10_3 x84_17 x104000_3 x104001_3 x105000_3 x105001_3 t114 t115 = some (r1, r2, r3, r4, r5)) ∧ Aside0 (kq ≤ k3) ∧ Aside0 (wc.heap[gb101]? = some (.cells #[.int .i64 0, .int .i64 0] 24 (0, 0))) ∧ Aside0 (wc.heap[gb102]? = some (.cells #[.int .i64 0, .int .i64 0] 24 (0, 0))) ∧ Aside0 (wc.heap[gb103]? = some (.cells #[.int .i64 x104000_3, .int .i64 x104001_3] 24 (0, 0))) ∧ Aside0 (wc.heap[gb104]? = some (.cells #[.int .i64 x105000_3, .int .i64 x105001_3] 24 (0, 0))) ∧ Aside0 (wc.heap[gb116]? = some (.cells #[.int .i64 t114, .int .i64 t115] 24 (0, 0))) ∧ Aside0 (Below w.heap.size w wc))
       case first =>
        have H := HC18.out; clear HC18; by_cases c29 : x7_3 = true; rotate_left
        ·replace c29 := Bool.eq_false_iff.mpr c29
         subst c29; rw [if_neg (show ¬ (false = true) by decide)] at H; have H' := A_ H; clear H
         go_wp2
         go_meet
         case rel => exact ⟨_, (true), eS, H', ⟨by have := HK1.out; have := HK2.out; have := HK3.out; first | omega | exact Nat.le_refl _⟩, ⟨bkU BK101⟩, ⟨bkU BK102⟩, ⟨bkU BK103⟩, ⟨bkU BK104⟩, ⟨bkU BK116⟩, ⟨by repeat (first | (with_reducible first | exact HB.out | apply below_alloc | apply pw_below_drewN | apply below_drew1 | refine below_set ?_ GE101.out | refine below_set ?_ GE102.out | refine below_set ?_ GE103.out | refine below_set ?_ GE104.out | refine below_set ?_ GE116.out) | exact HB.out)⟩⟩
        subst c29; rw [if_pos rfl] at H; replace H := Option.bind_eq_some_iff.mp H; obtain ⟨t117, A300, H⟩ := H; (try dsimp only at H); have A30 := A_ A300; clear A300; have H' := A_ H; clear H; have hnb31 := NB116_101.out; have hnc31 := NB101_116.out; have hnb32 := NB116_102.out; have hnc32 := NB102_116.out; have hnb33 := NB116_103.out; have hnc33 := NB103_116.out; have hnb34 := NB116_104.out; have hnc34 := NB104_116.out; have hcz35_0 : w28.cell? ⟨gb116, 0, none⟩ = some (.int .i64 t114) := (blk_cell BK116.out 0).trans rfl; have hcz35_1 : w28.cell? ⟨gb116, 1, none⟩ = some (.int .i64 t115) := (blk_cell BK116.out 1).trans rfl; have hfz35_0 := blk_frozen BK116.out 0; have hfz35_1 := blk_frozen BK116.out 1; have hnb36 := NB103_101.out; have hnc36 := NB101_103.out; have hnb37 := NB103_102.out; have hnc37 := NB102_103.out; have hnb38 := NB103_104.out; have hnc38 := NB104_103.out; have hcz39_0 : w28.cell? ⟨gb103, 0, none⟩ = some (.int .i64 x104000_3) := (blk_cell BK103.out 0).trans rfl; have hcz39_1 : w28.cell? ⟨gb103, 1, none⟩ = some (.int .i64 x104001_3) := (blk_cell BK103.out 1).trans rfl; have hfz39_0 := blk_frozen BK103.out 0; have hfz39_1 := blk_frozen BK103.out 1
        go_wp2_with (first | (go_at_call 75; (with_reducible refine (dropperref03_less.calls t114 t115 x104000_3 x104001_3 t117 _ A30.out).mono ?_); rintro e w40 ⟨rfl, hb⟩; have n0_ := A_ (bkB BK101 hb); have n1_ := A_ (bkB BK102 hb); have n2_ := A_ (bkB BK103 hb); have n3_ := A_ (bkB BK104 hb); have n4_ := A_ (bkB BK116 hb); have n5_ := A_ (below_step (bW5 HB.out GE101.out GE102.out GE103.out GE104.out GE116.out) hb); clear BK101; clear BK102; clear BK103; clear BK104; clear BK116; clear HB; have BK101 := n0_; have BK102 := n1_; have BK103 := n2_; have BK104 := n3_; have BK116 := n4_; have HB := n5_; clear n0_ n1_ n2_ n3_ n4_ n5_; (try clear hb)))
        go_meet
        case rel => exact ⟨_, (t117), eS, H', ⟨by have := HK1.out; have := HK2.out; have := HK3.out; first | omega | exact Nat.le_refl _⟩, ⟨bkU BK101⟩, ⟨bkU BK102⟩, ⟨bkU BK103⟩, ⟨bkU BK104⟩, ⟨bkU BK116⟩, ⟨by repeat (first | (with_reducible first | exact HB.out | apply below_alloc | apply pw_below_drewN | apply below_drew1 | refine below_set ?_ GE101.out | refine below_set ?_ GE102.out | refine below_set ?_ GE103.out | refine below_set ?_ GE104.out | refine below_set ?_ GE116.out) | exact HB.out)⟩⟩
       case rest =>
        clear HC18
        try clear p1; try clear q1; try clear hx1; try clear c2; try clear p2; try clear c3; try clear c6; try clear p6; try clear c7; try clear p11; try clear q11; try clear hx11; try clear c29; try clear c31; try clear c32; try clear c33; try clear c34; try clear c36; try clear c37; try clear c38; try clear hcz35_0; try clear hcz35_1; try clear hcz39_0; try clear hcz39_1; try clear hfz35_0; try clear hfz35_1; try clear hfz39_0; try clear hfz39_1; try clear hx112_0; try clear hx112_1; try clear hx112_2; try clear hx113_0; try clear hx113_1; try clear hx113_2; try clear p112; try clear p113; try clear q112; try clear q113
        obtain ⟨kq, x84_17, rfl, HA, HJ17, BK101, BK102, BK103, BK104, BK116, HB⟩ := hcut
        cases kq with
        | zero => exact absurd HA.out (by simp [dropperref03_slopes.j3])
        | succ kj17 =>
         have H := HA.out; clear HA; simp only [dropperref03_slopes.j3] at H; by_cases c41 : x84_17 = true; rotate_left
         ·replace c41 := Bool.eq_false_iff.mpr c41
          subst c41; rw [if_neg (show ¬ (false = true) by decide)] at H; by_cases c85 : x7_3 = true; rotate_left
          ·replace c85 := Bool.eq_false_iff.mpr c85
           subst c85; rw [if_neg (show ¬ (false = true) by decide)] at H; have H' := A_ H; clear H; have hnb110 := NB116_101.out; have hnc110 := NB101_116.out; have hnb111 := NB116_102.out; have hnc111 := NB102_116.out; have hnb112 := NB116_103.out; have hnc112 := NB103_116.out; have hnb113 := NB116_104.out; have hnc113 := NB104_116.out; have hcz114_0 : wc.cell? ⟨gb116, 0, none⟩ = some (.int .i64 t114) := (blk_cell BK116.out 0).trans rfl; have hcz114_1 : wc.cell? ⟨gb116, 1, none⟩ = some (.int .i64 t115) := (blk_cell BK116.out 1).trans rfl; have hfz114_0 := blk_frozen BK116.out 0; have hfz114_1 := blk_frozen BK116.out 1; have hnb115 := NB104_101.out; have hnc115 := NB101_104.out; have hnb116 := NB104_102.out; have hnc116 := NB102_104.out; have hnb117 := NB104_103.out; have hnc117 := NB103_104.out; have hcz118_0 : wc.cell? ⟨gb104, 0, none⟩ = some (.int .i64 x105000_3) := (blk_cell BK104.out 0).trans rfl; have hcz118_1 : wc.cell? ⟨gb104, 1, none⟩ = some (.int .i64 x105001_3) := (blk_cell BK104.out 1).trans rfl; have hfz118_0 := blk_frozen BK104.out 0; have hfz118_1 := blk_frozen BK104.out 1
           go_wp2
           go_roundg kj17
           case measure => have := HK1.out; have := HK2.out; have := HK3.out; have := HJ17.out; omega
           case rel => exact ⟨(true), (wrap64 (x10_3 + 1)), (x104000_3), (x104001_3), (t114), (t115), eS, eS, H', ⟨by have := HK1.out; have := HK2.out; have := HK3.out; have := HJ17.out; omega⟩, ⟨by refine bfW ?_ NB101_104.out; refine bfW ?_ NB101_104.out; exact bkU BK101⟩, ⟨by refine bfW ?_ NB102_104.out; refine bfW ?_ NB102_104.out; exact bkU BK102⟩, ⟨by refine bfW ?_ NB103_104.out; refine bfW ?_ NB103_104.out; exact bkU BK103⟩, ⟨by (with_reducible repeat (first | refine blk_drewN ?_ _ | refine blk_drew ?_ | refine blk_alloc ?_ _)); refine blk_put (cs := #[.int .i64 t114, .int .i64 x105001_3]) ?_ 1 _ rfl; (with_reducible repeat (first | refine blk_drewN ?_ _ | refine blk_drew ?_ | refine blk_alloc ?_ _)); refine blk_put (cs := #[.int .i64 x105000_3, .int .i64 x105001_3]) ?_ 0 _ rfl; exact bkU BK104⟩, ⟨by repeat (first | (with_reducible first | exact HB.out | apply below_alloc | apply pw_below_drewN | apply below_drew1 | refine below_set ?_ GE101.out | refine below_set ?_ GE102.out | refine below_set ?_ GE103.out | refine below_set ?_ GE104.out | refine below_set ?_ GE116.out) | exact HB.out)⟩⟩
          subst c85; rw [if_pos rfl] at H; replace H := Option.bind_eq_some_iff.mp H; obtain ⟨t119, A860, H⟩ := H; (try dsimp only at H); have A86 := A_ A860; clear A860; by_cases c87 : t119 = true; rotate_left
          ·replace c87 := Bool.eq_false_iff.mpr c87
           subst c87; rw [if_neg (show ¬ (false = true) by decide)] at H; have H' := A_ H; clear H; have hnb100 := NB104_101.out; have hnc100 := NB101_104.out; have hnb101 := NB104_102.out; have hnc101 := NB102_104.out; have hnb102 := NB104_103.out; have hnc102 := NB103_104.out; have hnb103 := NB104_116.out; have hnc103 := NB116_104.out; have hcz104_0 : wc.cell? ⟨gb104, 0, none⟩ = some (.int .i64 x105000_3) := (blk_cell BK104.out 0).trans rfl; have hcz104_1 : wc.cell? ⟨gb104, 1, none⟩ = some (.int .i64 x105001_3) := (blk_cell BK104.out 1).trans rfl; have hfz104_0 := blk_frozen BK104.out 0; have hfz104_1 := blk_frozen BK104.out 1; have hnb105 := NB116_101.out; have hnc105 := NB101_116.out; have hnb106 := NB116_102.out; have hnc106 := NB102_116.out; have hnb107 := NB116_103.out; have hnc107 := NB103_116.out; have hcz108_0 : wc.cell? ⟨gb116, 0, none⟩ = some (.int .i64 t114) := (blk_cell BK116.out 0).trans rfl; have hcz108_1 : wc.cell? ⟨gb116, 1, none⟩ = some (.int .i64 t115) := (blk_cell BK116.out 1).trans rfl; have hfz108_0 := blk_frozen BK116.out 0; have hfz108_1 := blk_frozen BK116.out 1
           go_wp2_with (first | (go_at_call 75; (with_reducible refine (dropperref03_less.calls x105000_3 x105001_3 t114 t115 false _ A86.out).mono ?_); rintro e w109 ⟨rfl, hb⟩; have n0_ := A_ (bkB BK101 hb); have n1_ := A_ (bkB BK102 hb); have n2_ := A_ (bkB BK103 hb); have n3_ := A_ (bkB BK104 hb); have n4_ := A_ (bkB BK116 hb); have n5_ := A_ (below_step (bW5 HB.out GE101.out GE102.out GE103.out GE104.out GE116.out) hb); clear BK101; clear BK102; clear BK103; clear BK104; clear BK116; clear HB; have BK101 := n0_; have BK102 := n1_; have BK103 := n2_; have BK104 := n3_; have BK116 := n4_; have HB := n5_; clear n0_ n1_ n2_ n3_ n4_ n5_; (try clear hb)))
           go_roundg kj17
           case measure => have := HK1.out; have := HK2.out; have := HK3.out; have := HJ17.out; omega
           case rel => exact ⟨(true), (wrap64 (x10_3 + 1)), (x104000_3), (x104001_3), (x105000_3), (x105001_3), eS, eS, H', ⟨by have := HK1.out; have := HK2.out; have := HK3.out; have := HJ17.out; omega⟩, ⟨bkU BK101⟩, ⟨bkU BK102⟩, ⟨bkU BK103⟩, ⟨bkU BK104⟩, ⟨by repeat (first | (with_reducible first | exact HB.out | apply below_alloc | apply pw_below_drewN | apply below_drew1 | refine below_set ?_ GE101.out | refine below_set ?_ GE102.out | refine below_set ?_ GE103.out | refine below_set ?_ GE104.out | refine below_set ?_ GE116.out) | exact HB.out)⟩⟩
          subst c87; rw [if_pos rfl] at H; have H' := A_ H; clear H; have hnb88 := NB104_101.out; have hnc88 := NB101_104.out; have hnb89 := NB104_102.out; have hnc89 := NB102_104.out; have hnb90 := NB104_103.out; have hnc90 := NB103_104.out; have hnb91 := NB104_116.out; have hnc91 := NB116_104.out; have hcz92_0 : wc.cell? ⟨gb104, 0, none⟩ = some (.int .i64 x105000_3) := (blk_cell BK104.out 0).trans rfl; have hcz92_1 : wc.cell? ⟨gb104, 1, none⟩ = some (.int .i64 x105001_3) := (blk_cell BK104.out 1).trans rfl; have hfz92_0 := blk_frozen BK104.out 0; have hfz92_1 := blk_frozen BK104.out 1; have hnb93 := NB116_101.out; have hnc93 := NB101_116.out; have hnb94 := NB116_102.out; have hnc94 := NB102_116.out; have hnb95 := NB116_103.out; have hnc95 := NB103_116.out; have hcz96_0 : wc.cell? ⟨gb116, 0, none⟩ = some (.int .i64 t114) := (blk_cell BK116.out 0).trans rfl; have hcz96_1 : wc.cell? ⟨gb116, 1, none⟩ = some (.int .i64 t115) := (blk_cell BK116.out 1).trans rfl; have hfz96_0 := blk_frozen BK116.out 0; have hfz96_1 := blk_frozen BK116.out 1
          go_wp2_with (first | (go_at_call 75; (with_reducible refine (dropperref03_less.calls x105000_3 x105001_3 t114 t115 true _ A86.out).mono ?_); rintro e w97 ⟨rfl, hb⟩; have n0_ := A_ (bkB BK101 hb); have n1_ := A_ (bkB BK102 hb); have n2_ := A_ (bkB BK103 hb); have n3_ := A_ (bkB BK104 hb); have n4_ := A_ (bkB BK116 hb); have n5_ := A_ (below_step (bW5 HB.out GE101.out GE102.out GE103.out GE104.out GE116.out) hb); clear BK101; clear BK102; clear BK103; clear BK104; clear BK116; clear HB; have BK101 := n0_; have BK102 := n1_; have BK103 := n2_; have BK104 := n3_; have BK116 := n4_; have HB := n5_; clear n0_ n1_ n2_ n3_ n4_ n5_; (try clear hb); have hcz98_0 : w97.cell? ⟨gb116, 0, none⟩ = some (.int .i64 t114) := (blk_cell BK116.out 0).trans rfl; have hcz98_1 : w97.cell? ⟨gb116, 1, none⟩ = some (.int .i64 t115) := (blk_cell BK116.out 1).trans rfl; have hfz98_0 := blk_frozen BK116.out 0; have hfz98_1 := blk_frozen BK116.out 1; have hcz99_0 : w97.cell? ⟨gb104, 0, none⟩ = some (.int .i64 x105000_3) := (blk_cell BK104.out 0).trans rfl; have hcz99_1 : w97.cell? ⟨gb104, 1, none⟩ = some (.int .i64 x105001_3) := (blk_cell BK104.out 1).trans rfl; have hfz99_0 := blk_frozen BK104.out 0; have hfz99_1 := blk_frozen BK104.out 1))
          go_roundg kj17
          case measure => have := HK1.out; have := HK2.out; have := HK3.out; have := HJ17.out; omega
          case rel => exact ⟨(true), (wrap64 (x10_3 + 1)), (x104000_3), (x104001_3), (t114), (t115), eS, eS, H', ⟨by have := HK1.out; have := HK2.out; have := HK3.out; have := HJ17.out; omega⟩, ⟨by refine bfW ?_ NB101_104.out; refine bfW ?_ NB101_104.out; exact bkU BK101⟩, ⟨by refine bfW ?_ NB102_104.out; refine bfW ?_ NB102_104.out; exact bkU BK102⟩, ⟨by refine bfW ?_ NB103_104.out; refine bfW ?_ NB103_104.out; exact bkU BK103⟩, ⟨by (with_reducible repeat (first | refine blk_drewN ?_ _ | refine blk_drew ?_ | refine blk_alloc ?_ _)); refine blk_put (cs := #[.int .i64 t114, .int .i64 x105001_3]) ?_ 1 _ rfl; (with_reducible repeat (first | refine blk_drewN ?_ _ | refine blk_drew ?_ | refine blk_alloc ?_ _)); refine blk_put (cs := #[.int .i64 x105000_3, .int .i64 x105001_3]) ?_ 0 _ rfl; exact bkU BK104⟩, ⟨by repeat (first | (with_reducible first | exact HB.out | apply below_alloc | apply pw_below_drewN | apply below_drew1 | refine below_set ?_ GE101.out | refine below_set ?_ GE102.out | refine below_set ?_ GE103.out | refine below_set ?_ GE104.out | refine below_set ?_ GE116.out) | exact HB.out)⟩⟩
         subst c41; rw [if_pos rfl] at H; by_cases c42 : x7_3 = true; rotate_left
         ·replace c42 := Bool.eq_false_iff.mpr c42
          subst c42; rw [if_neg (show ¬ (false = true) by decide)] at H; have H' := A_ H; clear H; have hnb73 := NB116_101.out; have hnc73 := NB101_116.out; have hnb74 := NB116_102.out; have hnc74 := NB102_116.out; have hnb75 := NB116_103.out; have hnc75 := NB103_116.out; have hnb76 := NB116_104.out; have hnc76 := NB104_116.out; have hcz77_0 : wc.cell? ⟨gb116, 0, none⟩ = some (.int .i64 t114) := (blk_cell BK116.out 0).trans rfl; have hcz77_1 : wc.cell? ⟨gb116, 1, none⟩ = some (.int .i64 t115) := (blk_cell BK116.out 1).trans rfl; have hfz77_0 := blk_frozen BK116.out 0; have hfz77_1 := blk_frozen BK116.out 1; have hnb78 := NB103_101.out; have hnc78 := NB101_103.out; have hnb79 := NB103_102.out; have hnc79 := NB102_103.out; have hnb80 := NB103_104.out; have hnc80 := NB104_103.out; have hcz81_0 : wc.cell? ⟨gb103, 0, none⟩ = some (.int .i64 x104000_3) := (blk_cell BK103.out 0).trans rfl; have hcz81_1 : wc.cell? ⟨gb103, 1, none⟩ = some (.int .i64 x104001_3) := (blk_cell BK103.out 1).trans rfl; have hfz81_0 := blk_frozen BK103.out 0; have hfz81_1 := blk_frozen BK103.out 1; have hnb82 := NB104_101.out; have hnc82 := NB101_104.out; have hnb83 := NB104_102.out; have hnc83 := NB102_104.out; have hcz84_0 : wc.cell? ⟨gb104, 0, none⟩ = some (.int .i64 x105000_3) := (blk_cell BK104.out 0).trans rfl; have hcz84_1 : wc.cell? ⟨gb104, 1, none⟩ = some (.int .i64 x105001_3) := (blk_cell BK104.out 1).trans rfl; have hfz84_0 := blk_frozen BK104.out 0; have hfz84_1 := blk_frozen BK104.out 1
          go_wp2
          go_roundg kj17
          case measure => have := HK1.out; have := HK2.out; have := HK3.out; have := HJ17.out; omega
          case rel => exact ⟨(true), (wrap64 (x10_3 + 1)), (t114), (t115), (t114), (t115), eS, eS, H', ⟨by have := HK1.out; have := HK2.out; have := HK3.out; have := HJ17.out; omega⟩, ⟨by refine bfW ?_ NB101_104.out; refine bfW ?_ NB101_104.out; refine bfW ?_ NB101_103.out; refine bfW ?_ NB101_103.out; exact bkU BK101⟩, ⟨by refine bfW ?_ NB102_104.out; refine bfW ?_ NB102_104.out; refine bfW ?_ NB102_103.out; refine bfW ?_ NB102_103.out; exact bkU BK102⟩, ⟨by refine bfW ?_ NB103_104.out; refine bfW ?_ NB103_104.out; (with_reducible repeat (first | refine blk_drewN ?_ _ | refine blk_drew ?_ | refine blk_alloc ?_ _)); refine blk_put (cs := #[.int .i64 t114, .int .i64 x104001_3]) ?_ 1 _ rfl; (with_reducible repeat (first | refine blk_drewN ?_ _ | refine blk_drew ?_ | refine blk_alloc ?_ _)); refine blk_put (cs := #[.int .i64 x104000_3, .int .i64 x104001_3]) ?_ 0 _ rfl; exact bkU BK103⟩, ⟨by (with_reducible repeat (first | refine blk_drewN ?_ _ | refine blk_drew ?_ | refine blk_alloc ?_ _)); refine blk_put (cs := #[.int .i64 t114, .int .i64 x105001_3]) ?_ 1 _ rfl; (with_reducible repeat (first | refine blk_drewN ?_ _ | refine blk_drew ?_ | refine blk_alloc ?_ _)); refine blk_put (cs := #[.int .i64 x105000_3, .int .i64 x105001_3]) ?_ 0 _ rfl; refine bfW ?_ NB104_103.out; refine bfW ?_ NB104_103.out; exact bkU BK104⟩, ⟨by repeat (first | (with_reducible first | exact HB.out | apply below_alloc | apply pw_below_drewN | apply below_drew1 | refine below_set ?_ GE101.out | refine below_set ?_ GE102.out | refine below_set ?_ GE103.out | refine below_set ?_ GE104.out | refine below_set ?_ GE116.out) | exact HB.out)⟩⟩
         subst c42; rw [if_pos rfl] at H; replace H := Option.bind_eq_some_iff.mp H; obtain ⟨t118, A430, H⟩ := H; (try dsimp only at H); have A43 := A_ A430; clear A430; by_cases c44 : t118 = true; rotate_left
         ·replace c44 := Bool.eq_false_iff.mpr c44
          subst c44; rw [if_neg (show ¬ (false = true) by decide)] at H; have H' := A_ H; clear H; have hnb60 := NB116_101.out; have hnc60 := NB101_116.out; have hnb61 := NB116_102.out; have hnc61 := NB102_116.out; have hnb62 := NB116_103.out; have hnc62 := NB103_116.out; have hnb63 := NB116_104.out; have hnc63 := NB104_116.out; have hcz64_0 : wc.cell? ⟨gb116, 0, none⟩ = some (.int .i64 t114) := (blk_cell BK116.out 0).trans rfl; have hcz64_1 : wc.cell? ⟨gb116, 1, none⟩ = some (.int .i64 t115) := (blk_cell BK116.out 1).trans rfl; have hfz64_0 := blk_frozen BK116.out 0; have hfz64_1 := blk_frozen BK116.out 1; have hnb65 := NB103_101.out; have hnc65 := NB101_103.out; have hnb66 := NB103_102.out; have hnc66 := NB102_103.out; have hnb67 := NB103_104.out; have hnc67 := NB104_103.out; have hcz68_0 : wc.cell? ⟨gb103, 0, none⟩ = some (.int .i64 x104000_3) := (blk_cell BK103.out 0).trans rfl; have hcz68_1 : wc.cell? ⟨gb103, 1, none⟩ = some (.int .i64 x104001_3) := (blk_cell BK103.out 1).trans rfl; have hfz68_0 := blk_frozen BK103.out 0; have hfz68_1 := blk_frozen BK103.out 1; have hnb69 := NB104_101.out; have hnc69 := NB101_104.out; have hnb70 := NB104_102.out; have hnc70 := NB102_104.out; have hcz71_0 : wc.cell? ⟨gb104, 0, none⟩ = some (.int .i64 x105000_3) := (blk_cell BK104.out 0).trans rfl; have hcz71_1 : wc.cell? ⟨gb104, 1, none⟩ = some (.int .i64 x105001_3) := (blk_cell BK104.out 1).trans rfl; have hfz71_0 := blk_frozen BK104.out 0; have hfz71_1 := blk_frozen BK104.out 1
          go_wp2_with (first | (go_at_call 75; (with_reducible refine (dropperref03_less.calls x105000_3 x105001_3 t114 t115 false _ A43.out).mono ?_); rintro e w72 ⟨rfl, hb⟩; have n0_ := A_ (blk_below (g := gb101) (o := .cells #[.int .i64 0, .int .i64 0] 24 (0, 0)) (bkF2 BK101 NB101_103) hb); have n1_ := A_ (blk_below (g := gb102) (o := .cells #[.int .i64 0, .int .i64 0] 24 (0, 0)) (bkF2 BK102 NB102_103) hb); have n2_ := A_ (blk_below (g := gb103) (o := .cells #[.int .i64 t114, .int .i64 t115] 24 (0, 0)) (by (with_reducible repeat (first | refine blk_drewN ?_ _ | refine blk_drew ?_ | refine blk_alloc ?_ _)); refine blk_put (cs := #[.int .i64 t114, .int .i64 x104001_3]) ?_ 1 _ rfl; (with_reducible repeat (first | refine blk_drewN ?_ _ | refine blk_drew ?_ | refine blk_alloc ?_ _)); refine blk_put (cs := #[.int .i64 x104000_3, .int .i64 x104001_3]) ?_ 0 _ rfl; exact bkU BK103) hb); have n3_ := A_ (blk_below (g := gb104) (o := .cells #[.int .i64 x105000_3, .int .i64 x105001_3] 24 (0, 0)) (bkF2 BK104 NB104_103) hb); have n4_ := A_ (blk_below (g := gb116) (o := .cells #[.int .i64 t114, .int .i64 t115] 24 (0, 0)) (bkF2 BK116 NB116_103) hb); have n5_ := A_ (below_step (bW5 HB.out GE101.out GE102.out GE103.out GE104.out GE116.out) hb); clear BK101; clear BK102; clear BK103; clear BK104; clear BK116; clear HB; have BK101 := n0_; have BK102 := n1_; have BK103 := n2_; have BK104 := n3_; have BK116 := n4_; have HB := n5_; clear n0_ n1_ n2_ n3_ n4_ n5_; (try clear hb)))
          go_roundg kj17
          case measure => have := HK1.out; have := HK2.out; have := HK3.out; have := HJ17.out; omega
          case rel => exact ⟨(true), (wrap64 (x10_3 + 1)), (t114), (t115), (x105000_3), (x105001_3), eS, eS, H', ⟨by have := HK1.out; have := HK2.out; have := HK3.out; have := HJ17.out; omega⟩, ⟨bkU BK101⟩, ⟨bkU BK102⟩, ⟨bkU BK103⟩, ⟨bkU BK104⟩, ⟨by repeat (first | (with_reducible first | exact HB.out | apply below_alloc | apply pw_below_drewN | apply below_drew1 | refine below_set ?_ GE101.out | refine below_set ?_ GE102.out | refine below_set ?_ GE103.out | refine below_set ?_ GE104.out | refine below_set ?_ GE116.out) | exact HB.out)⟩⟩
         subst c44; rw [if_pos rfl] at H; have H' := A_ H; clear H; have hnb45 := NB116_101.out; have hnc45 := NB101_116.out; have hnb46 := NB116_102.out; have hnc46 := NB102_116.out; have hnb47 := NB116_103.out; have hnc47 := NB103_116.out; have hnb48 := NB116_104.out; have hnc48 := NB104_116.out; have hcz49_0 : wc.cell? ⟨gb116, 0, none⟩ = some (.int .i64 t114) := (blk_cell BK116.out 0).trans rfl; have hcz49_1 : wc.cell? ⟨gb116, 1, none⟩ = some (.int .i64 t115) := (blk_cell BK116.out 1).trans rfl; have hfz49_0 := blk_frozen BK116.out 0; have hfz49_1 := blk_frozen BK116.out 1; have hnb50 := NB103_101.out; have hnc50 := NB101_103.out; have hnb51 := NB103_102.out; have hnc51 := NB102_103.out; have hnb52 := NB103_104.out; have hnc52 := NB104_103.out; have hcz53_0 : wc.cell? ⟨gb103, 0, none⟩ = some (.int .i64 x104000_3) := (blk_cell BK103.out 0).trans rfl; have hcz53_1 : wc.cell? ⟨gb103, 1, none⟩ = some (.int .i64 x104001_3) := (blk_cell BK103.out 1).trans rfl; have hfz53_0 := blk_frozen BK103.out 0; have hfz53_1 := blk_frozen BK103.out 1; have hnb54 := NB104_101.out; have hnc54 := NB101_104.out; have hnb55 := NB104_102.out; have hnc55 := NB102_104.out; have hcz56_0 : wc.cell? ⟨gb104, 0, none⟩ = some (.int .i64 x105000_3) := (blk_cell BK104.out 0).trans rfl; have hcz56_1 : wc.cell? ⟨gb104, 1, none⟩ = some (.int .i64 x105001_3) := (blk_cell BK104.out 1).trans rfl; have hfz56_0 := blk_frozen BK104.out 0; have hfz56_1 := blk_frozen BK104.out 1
         go_wp2_with (first | (go_at_call 75; (with_reducible refine (dropperref03_less.calls x105000_3 x105001_3 t114 t115 true _ A43.out).mono ?_); rintro e w57 ⟨rfl, hb⟩; have n0_ := A_ (blk_below (g := gb101) (o := .cells #[.int .i64 0, .int .i64 0] 24 (0, 0)) (bkF2 BK101 NB101_103) hb); have n1_ := A_ (blk_below (g := gb102) (o := .cells #[.int .i64 0, .int .i64 0] 24 (0, 0)) (bkF2 BK102 NB102_103) hb); have n2_ := A_ (blk_below (g := gb103) (o := .cells #[.int .i64 t114, .int .i64 t115] 24 (0, 0)) (by (with_reducible repeat (first | refine blk_drewN ?_ _ | refine blk_drew ?_ | refine blk_alloc ?_ _)); refine blk_put (cs := #[.int .i64 t114, .int .i64 x104001_3]) ?_ 1 _ rfl; (with_reducible repeat (first | refine blk_drewN ?_ _ | refine blk_drew ?_ | refine blk_alloc ?_ _)); refine blk_put (cs := #[.int .i64 x104000_3, .int .i64 x104001_3]) ?_ 0 _ rfl; exact bkU BK103) hb); have n3_ := A_ (blk_below (g := gb104) (o := .cells #[.int .i64 x105000_3, .int .i64 x105001_3] 24 (0, 0)) (bkF2 BK104 NB104_103) hb); have n4_ := A_ (blk_below (g := gb116) (o := .cells #[.int .i64 t114, .int .i64 t115] 24 (0, 0)) (bkF2 BK116 NB116_103) hb); have n5_ := A_ (below_step (bW5 HB.out GE101.out GE102.out GE103.out GE104.out GE116.out) hb); clear BK101; clear BK102; clear BK103; clear BK104; clear BK116; clear HB; have BK101 := n0_; have BK102 := n1_; have BK103 := n2_; have BK104 := n3_; have BK116 := n4_; have HB := n5_; clear n0_ n1_ n2_ n3_ n4_ n5_; (try clear hb); have hcz58_0 : w57.cell? ⟨gb116, 0, none⟩ = some (.int .i64 t114) := (blk_cell BK116.out 0).trans rfl; have hcz58_1 : w57.cell? ⟨gb116, 1, none⟩ = some (.int .i64 t115) := (blk_cell BK116.out 1).trans rfl; have hfz58_0 := blk_frozen BK116.out 0; have hfz58_1 := blk_frozen BK116.out 1; have hcz59_0 : w57.cell? ⟨gb104, 0, none⟩ = some (.int .i64 x105000_3) := (blk_cell BK104.out 0).trans rfl; have hcz59_1 : w57.cell? ⟨gb104, 1, none⟩ = some (.int .i64 x105001_3) := (blk_cell BK104.out 1).trans rfl; have hfz59_0 := blk_frozen BK104.out 0; have hfz59_1 := blk_frozen BK104.out 1))
         go_roundg kj17
         case measure => have := HK1.out; have := HK2.out; have := HK3.out; have := HJ17.out; omega
         case rel => exact ⟨(true), (wrap64 (x10_3 + 1)), (t114), (t115), (t114), (t115), eS, eS, H', ⟨by have := HK1.out; have := HK2.out; have := HK3.out; have := HJ17.out; omega⟩, ⟨by refine bfW ?_ NB101_104.out; refine bfW ?_ NB101_104.out; exact bkU BK101⟩, ⟨by refine bfW ?_ NB102_104.out; refine bfW ?_ NB102_104.out; exact bkU BK102⟩, ⟨by refine bfW ?_ NB103_104.out; refine bfW ?_ NB103_104.out; exact bkU BK103⟩, ⟨by (with_reducible repeat (first | refine blk_drewN ?_ _ | refine blk_drew ?_ | refine blk_alloc ?_ _)); refine blk_put (cs := #[.int .i64 t114, .int .i64 x105001_3]) ?_ 1 _ rfl; (with_reducible repeat (first | refine blk_drewN ?_ _ | refine blk_drew ?_ | refine blk_alloc ?_ _)); refine blk_put (cs := #[.int .i64 x105000_3, .int .i64 x105001_3]) ?_ 0 _ rfl; exact bkU BK104⟩, ⟨by repeat (first | (with_reducible first | exact HB.out | apply below_alloc | apply pw_below_drewN | apply below_drew1 | refine below_set ?_ GE101.out | refine below_set ?_ GE102.out | refine below_set ?_ GE103.out | refine below_set ?_ GE104.out | refine below_set ?_ GE116.out) | exact HB.out)⟩⟩
end Go.Proofs.Ytiapmkndgalgnaa.G
