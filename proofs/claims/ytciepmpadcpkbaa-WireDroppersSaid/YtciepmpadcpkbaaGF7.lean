-- Written by this session's driver (wip/tools/printmore.py) over the kit's print, with hand-written parts.
import Derived.Test.YtciepmpadcpkbaaGBase
import Derived.Test.YtciepmpadcpkbaaGQ55
import Derived.Test.YtciepmpadcpkbaaGF32
import Derived.Test.YtciepmpadcpkbaaGF14
import Derived.Test.YtciepmpadcpkbaaGF33
import Derived.Test.YtciepmpadcpkbaaGF34
import Derived.Test.YtciepmpadcpkbaaGF35
import Derived.Test.YtciepmpadcpkbaaGF36
import Derived.Test.YtciepmpadcpkbaaGF37
import Derived.Test.YtciepmpadcpkbaaGF38
namespace Go.Proofs.Ytciepmpadcpkbaa.G
open Go.RowKit Go.Proofs.YtciepmpadcpkbaaW.PrintWords Go.Proofs.YtciepmpadcpkbaaW.PrintLast Go.Proofs.YtciepmpadcpkbaaW.PrintMore
attribute [local go_sem] max2_int min2_int max_two min_two max_three min_three max_four min_four   -- for this text's walks alone
set_option linter.unusedVariables false
set_option linter.unusedSimpArgs false

attribute [local go_sem high] eqA55
/-! ### dropperlaw02_WireSags: function 7 -/
mutual
def dropperlaw02_WireSags.j0 : Nat → Int → Bool → Int → Int → Int → Int → Int → Option (Bool)
  | 0, _, _, _, _, _, _, _ => none
  | k + 1, x1, x40, x102000, x102001, x102002, x103000, x103001 => if x40 = true then (some false) else ((wire_Drop.f k x102000 x102001 x102002 x1).bind fun bt111 => ((dropperref02_Drop.f k x102000 x102001 x102002 x1).bind fun bt114 => (if (!(bt111.1 == bt114.1) || (!(bt111.2.1 == bt114.2.1))) = true then (dropperlaw02_WireSags.j1 k true x102000 x102001 x102002 x103000 x103001) else (dropperlaw02_WireSags.j1 k (bt111.2.2 != bt114.2.2) x102000 x102001 x102002 x103000 x103001))))
def dropperlaw02_WireSags.j1 : Nat → Bool → Int → Int → Int → Int → Int → Option (Bool)
  | 0, _, _, _, _, _, _ => none
  | k + 1, x70, x102000, x102001, x102002, x103000, x103001 => if x70 = true then (some false) else ((wire_Droppers.f k x102000 x102001 x102002 x103000 x103001).bind fun bt117 => ((dropperref02_Droppers.f k x102000 x102001 x102002 x103000 x103001).bind fun bt121 => (if bt117.2 = bt121.2 then ((dropperlaw02_sameRatios.f k bt117.1 bt121.1).bind fun t125 => (if t125 = true then ((dropperlaw02_Awake.f k).bind fun t126 => (some t126)) else (some false))) else (some false))))
end
def dropperlaw02_WireSags.f (k : Nat) (a0_0 : Int) (a0_1 : Int) (a0_2 : Int) (a1 : Int) (a2_0 : Int) (a2_1 : Int) : Option (Bool) := (wire_Sag.f k a0_0 a0_1 a0_2).bind fun bt103 => ((dropperref02_Sag.f k a0_0 a0_1 a0_2).bind fun bt107 => (if (!(bt103.1 == bt107.1) || (!(bt103.2.1 == bt107.2.1))) = true then (dropperlaw02_WireSags.j0 k a1 true a0_0 a0_1 a0_2 a2_0 a2_1) else (dropperlaw02_WireSags.j0 k a1 (bt103.2.2 != bt107.2.2) a0_0 a0_1 a0_2 a2_0 a2_1)))
theorem dropperlaw02_WireSags.mono_l : ∀ k, (∀ y0 y1 y2 y3 y4 y5 y6, LeO (dropperlaw02_WireSags.j0 k y0 y1 y2 y3 y4 y5 y6) (dropperlaw02_WireSags.j0 (k + 1) y0 y1 y2 y3 y4 y5 y6)) ∧ (∀ y0 y1 y2 y3 y4 y5, LeO (dropperlaw02_WireSags.j1 k y0 y1 y2 y3 y4 y5) (dropperlaw02_WireSags.j1 (k + 1) y0 y1 y2 y3 y4 y5))
  | 0 => ⟨fun _ _ _ _ _ _ _ r h => by simp [dropperlaw02_WireSags.j0] at h, fun _ _ _ _ _ _ r h => by simp [dropperlaw02_WireSags.j1] at h⟩
  | k + 1 => by
    obtain ⟨ih0, ih1⟩ := dropperlaw02_WireSags.mono_l k
    refine ⟨?_, ?_⟩
    · intro y0 y1 y2 y3 y4 y5 y6
      unfold dropperlaw02_WireSags.j0
      repeat' first
      | (with_reducible exact ih0 _ _ _ _ _ _ _)
      | (with_reducible exact ih1 _ _ _ _ _ _)
      | (with_reducible exact dropperlaw02_Awake.mono _)
      | (with_reducible exact dropperlaw02_sameRatios.mono _ _ _)
      | (with_reducible exact dropperref02_Drop.mono _ _ _ _ _)
      | (with_reducible exact dropperref02_Droppers.mono _ _ _ _ _ _)
      | (with_reducible exact dropperref02_Sag.mono _ _ _ _)
      | (with_reducible exact wire_Drop.mono _ _ _ _ _)
      | (with_reducible exact wire_Droppers.mono _ _ _ _ _ _)
      | (with_reducible exact wire_Sag.mono _ _ _ _)
      | (with_reducible exact LeO.refl _)
      | (with_reducible exact LeO.none _)
      | (with_reducible refine LeO.ite ?_ ?_)
      | (with_reducible refine LeO.bind ?_ (fun _ => ?_))
      | exact ih0 _ _ _ _ _ _ _
      | exact ih1 _ _ _ _ _ _
      | exact dropperlaw02_Awake.mono _
      | exact dropperlaw02_sameRatios.mono _ _ _
      | exact dropperref02_Drop.mono _ _ _ _ _
      | exact dropperref02_Droppers.mono _ _ _ _ _ _
      | exact dropperref02_Sag.mono _ _ _ _
      | exact wire_Drop.mono _ _ _ _ _
      | exact wire_Droppers.mono _ _ _ _ _ _
      | exact wire_Sag.mono _ _ _ _
      | exact LeO.none _
      | refine LeO.ite ?_ ?_
      | refine LeO.bind ?_ (fun _ => ?_)
    · intro y0 y1 y2 y3 y4 y5
      unfold dropperlaw02_WireSags.j1
      repeat' first
      | (with_reducible exact ih0 _ _ _ _ _ _ _)
      | (with_reducible exact ih1 _ _ _ _ _ _)
      | (with_reducible exact dropperlaw02_Awake.mono _)
      | (with_reducible exact dropperlaw02_sameRatios.mono _ _ _)
      | (with_reducible exact dropperref02_Drop.mono _ _ _ _ _)
      | (with_reducible exact dropperref02_Droppers.mono _ _ _ _ _ _)
      | (with_reducible exact dropperref02_Sag.mono _ _ _ _)
      | (with_reducible exact wire_Drop.mono _ _ _ _ _)
      | (with_reducible exact wire_Droppers.mono _ _ _ _ _ _)
      | (with_reducible exact wire_Sag.mono _ _ _ _)
      | (with_reducible exact LeO.refl _)
      | (with_reducible exact LeO.none _)
      | (with_reducible refine LeO.ite ?_ ?_)
      | (with_reducible refine LeO.bind ?_ (fun _ => ?_))
      | exact ih0 _ _ _ _ _ _ _
      | exact ih1 _ _ _ _ _ _
      | exact dropperlaw02_Awake.mono _
      | exact dropperlaw02_sameRatios.mono _ _ _
      | exact dropperref02_Drop.mono _ _ _ _ _
      | exact dropperref02_Droppers.mono _ _ _ _ _ _
      | exact dropperref02_Sag.mono _ _ _ _
      | exact wire_Drop.mono _ _ _ _ _
      | exact wire_Droppers.mono _ _ _ _ _ _
      | exact wire_Sag.mono _ _ _ _
      | exact LeO.none _
      | refine LeO.ite ?_ ?_
      | refine LeO.bind ?_ (fun _ => ?_)
theorem dropperlaw02_WireSags.mono : ∀ a0 a1 a2 a3 a4 a5 k, LeO (dropperlaw02_WireSags.f k a0 a1 a2 a3 a4 a5) (dropperlaw02_WireSags.f (k + 1) a0 a1 a2 a3 a4 a5) := by
  intro a0 a1 a2 a3 a4 a5 k
  obtain ⟨ih0, ih1⟩ := dropperlaw02_WireSags.mono_l k
  unfold dropperlaw02_WireSags.f
  repeat' first
      | (with_reducible exact ih0 _ _ _ _ _ _ _)
      | (with_reducible exact ih1 _ _ _ _ _ _)
      | (with_reducible exact dropperlaw02_Awake.mono _)
      | (with_reducible exact dropperlaw02_sameRatios.mono _ _ _)
      | (with_reducible exact dropperref02_Drop.mono _ _ _ _ _)
      | (with_reducible exact dropperref02_Droppers.mono _ _ _ _ _ _)
      | (with_reducible exact dropperref02_Sag.mono _ _ _ _)
      | (with_reducible exact wire_Drop.mono _ _ _ _ _)
      | (with_reducible exact wire_Droppers.mono _ _ _ _ _ _)
      | (with_reducible exact wire_Sag.mono _ _ _ _)
      | (with_reducible exact LeO.refl _)
      | (with_reducible exact LeO.none _)
      | (with_reducible refine LeO.ite ?_ ?_)
      | (with_reducible refine LeO.bind ?_ (fun _ => ?_))
      | exact ih0 _ _ _ _ _ _ _
      | exact ih1 _ _ _ _ _ _
      | exact dropperlaw02_Awake.mono _
      | exact dropperlaw02_sameRatios.mono _ _ _
      | exact dropperref02_Drop.mono _ _ _ _ _
      | exact dropperref02_Droppers.mono _ _ _ _ _ _
      | exact dropperref02_Sag.mono _ _ _ _
      | exact wire_Drop.mono _ _ _ _ _
      | exact wire_Droppers.mono _ _ _ _ _ _
      | exact wire_Sag.mono _ _ _ _
      | exact LeO.none _
      | refine LeO.ite ?_ ?_
      | refine LeO.bind ?_ (fun _ => ?_)
set_option maxHeartbeats 8000000 in
set_option maxRecDepth 100000 in
theorem dropperlaw02_WireSags.calls (k : Nat) (a0_0 : Int) (a0_1 : Int) (a0_2 : Int) (a1 : Int) (a2_0 : Int) (a2_1 : Int) (r : Bool) (w : World) (h : dropperlaw02_WireSags.f k a0_0 a0_1 a0_2 a1 a2_0 a2_1 = some r) (hT : r = true) :
    Calls Try.prog 7 #[.agg #[.int .i64 a0_0, .int .i64 a0_1, .int .i64 a0_2], .int .i64 a1, .agg #[.int .i64 a2_0, .int .i64 a2_1]] w fun e w' => e = .returned (.bool r) ∧ Below w.heap.size w w' := by
  have hu53 := Try.underlying53
  have hu25 := Try.underlying25
  have hu55 := Try.underlying55
  have HB := Aside0.mk (Below.refl w.heap.size w)
  have H : ((wire_Sag.f k a0_0 a0_1 a0_2).bind fun bt103 => ((dropperref02_Sag.f k a0_0 a0_1 a0_2).bind fun bt107 => (if (!(bt103.1 == bt107.1) || (!(bt103.2.1 == bt107.2.1))) = true then (dropperlaw02_WireSags.j0 k a1 true a0_0 a0_1 a0_2 a2_0 a2_1) else (dropperlaw02_WireSags.j0 k a1 (bt103.2.2 != bt107.2.2) a0_0 a0_1 a0_2 a2_0 a2_1)))) = some r := h
  clear h
  replace H := Option.bind_eq_some_iff.mp H
  obtain ⟨⟨t103, t104, t105⟩, A40, H⟩ := H
  replace H : ((dropperref02_Sag.f k a0_0 a0_1 a0_2).bind fun bt107 => (if (!(t103 == bt107.1) || (!(t104 == bt107.2.1))) = true then (dropperlaw02_WireSags.j0 k a1 true a0_0 a0_1 a0_2 a2_0 a2_1) else (dropperlaw02_WireSags.j0 k a1 (t105 != bt107.2.2) a0_0 a0_1 a0_2 a2_0 a2_1))) = some r := H
  have A4 := Aside0.mk A40
  clear A40
  replace H := Option.bind_eq_some_iff.mp H
  obtain ⟨⟨t107, t108, t109⟩, A50, H⟩ := H
  replace H : (if (!(t103 == t107) || (!(t104 == t108))) = true then (dropperlaw02_WireSags.j0 k a1 true a0_0 a0_1 a0_2 a2_0 a2_1) else (dropperlaw02_WireSags.j0 k a1 (t105 != t109) a0_0 a0_1 a0_2 a2_0 a2_1)) = some r := H
  have A5 := Aside0.mk A50
  clear A50
  have HC6 := Aside0.mk H
  clear H
  go_enter Try.func7, Try.ntmps7
  go_upto_region 3 with (first | ((with_reducible refine gate_dst (N := 3) rfl ?_); refine box_event ?hg (N := 3) ?hd (cs := #[.int .i64 a0_0, .int .i64 a0_1, .int .i64 a0_2]) (t := 53) ?hr ?_; (case hd => rfl); (case hg => rfl); (case hr => first | (go_simp; done) | (go_simp; rfl)); intro gb101 hg w7 hbox hb; have n0_ := Aside0.mk (below_step (by repeat (first | (with_reducible first | exact HB.out | apply below_alloc | apply pw_below_drewN | apply below_drew1) | exact HB.out)) hb); have n1_ := Aside0.mk (hbox); have n2_ := Aside0.mk ((by rw [hg]; exact (below_size (by repeat (first | (with_reducible first | exact HB.out | apply below_alloc | apply pw_below_drewN | apply below_drew1) | exact HB.out))) : w.heap.size ≤ gb101)); have n3_ := Aside0.mk ((by rw [hg]; exact (below_size (by repeat (first | (with_reducible first | exact HB.out | apply below_alloc | apply pw_below_drewN | apply below_drew1) | exact HB.out))) : w.heap.size ≤ gb101)); clear HB; have HB := n0_; have BK101 := n1_; have GW101 := n2_; have GE101 := n3_; clear n0_ n1_ n2_ n3_; clear hb hbox hg) | ((with_reducible refine gate_dst (N := 5) rfl ?_); refine box_event ?hg (N := 5) ?hd (cs := #[.int .i64 a2_0, .int .i64 a2_1]) (t := 25) ?hr ?_; (case hd => rfl); (case hg => rfl); (case hr => first | (go_simp; done) | (go_simp; rfl)); intro gb102 hg w8 hbox hb; have n0_ := Aside0.mk (bkB BK101 hb); have n1_ := Aside0.mk (below_step (by repeat (first | (with_reducible first | exact HB.out | apply below_alloc | apply pw_below_drewN | apply below_drew1 | refine below_set ?_ GE101.out) | exact HB.out)) hb); have n2_ := Aside0.mk (hbox); have n3_ := Aside0.mk ((by rw [hg]; exact (below_size (by repeat (first | (with_reducible first | exact HB.out | apply below_alloc | apply pw_below_drewN | apply below_drew1 | refine below_set ?_ GE101.out) | exact HB.out))) : w.heap.size ≤ gb102)); have n4_ := Aside0.mk ((by rw [hg]; exact (below_size (by repeat (first | (with_reducible first | exact HB.out | apply below_alloc | apply pw_below_drewN | apply below_drew1 | refine below_set ?_ GE101.out) | exact HB.out))) : w.heap.size ≤ gb102)); have n5_ := Aside0.mk ((bkL BK101 hg : gb101 ≠ gb102)); have n6_ := Aside0.mk ((bkG BK101 hg : gb102 ≠ gb101)); clear BK101; clear HB; have BK101 := n0_; have HB := n1_; have BK102 := n2_; have GW102 := n3_; have GE102 := n4_; have NB101_102 := n5_; have NB102_101 := n6_; clear n0_ n1_ n2_ n3_ n4_ n5_ n6_; clear hb hbox hg; have hnb9 := NB101_102.out; have hnc9 := NB102_101.out; have hcz10_0 : w8.cell? ⟨gb101, 0, none⟩ = some (.int .i64 a0_0) := (blk_cell BK101.out 0).trans rfl; have hcz10_1 : w8.cell? ⟨gb101, 1, none⟩ = some (.int .i64 a0_1) := (blk_cell BK101.out 1).trans rfl; have hcz10_2 : w8.cell? ⟨gb101, 2, none⟩ = some (.int .i64 a0_2) := (blk_cell BK101.out 2).trans rfl; have hfz10_0 := blk_frozen BK101.out 0; have hfz10_1 := blk_frozen BK101.out 1; have hfz10_2 := blk_frozen BK101.out 2) | ((with_reducible refine gate_callee (f := 32) rfl ?_); refine goesL_ (some 20) rfl rfl Try.func32 (by kernel_rfl) rfl #[.int .i64 a0_0, .int .i64 a0_1, .int .i64 a0_2] rfl (by (try simp only [List.map_toArray, List.map_cons, List.map_nil]); first | done | rfl | (simp only [List.length_drop, List.length_take]; rfl)) ?_; (with_reducible refine (wire_Sag.calls k a0_0 a0_1 a0_2 t103 t104 t105 _ A4.out).mono ?_); rintro e w11 ⟨rfl, hb⟩; refine ⟨_, rfl, ?_⟩; have n0_ := Aside0.mk (bkB BK101 hb); have n1_ := Aside0.mk (bkB BK102 hb); have n2_ := Aside0.mk (below_step (by repeat (first | (with_reducible first | exact HB.out | apply below_alloc | apply pw_below_drewN | apply below_drew1 | refine below_set ?_ GE101.out | refine below_set ?_ GE102.out) | exact HB.out)) hb); clear BK101; clear BK102; clear HB; have BK101 := n0_; have BK102 := n1_; have HB := n2_; clear n0_ n1_ n2_; (try clear hb); (try clear hb2); (try clear hk); (try clear hi)) | ((with_reducible refine gate_dst (N := 7) rfl ?_); refine box_event ?hg (N := 7) ?hd (cs := #[.int .i64 0, .int .i64 0]) (t := 55) ?hr ?_; (case hd => rfl); (case hg => rfl); (case hr => first | (go_simp; done) | (go_simp; rfl)); intro gb106 hg w12 hbox hb; have n0_ := Aside0.mk (bkB BK101 hb); have n1_ := Aside0.mk (bkB BK102 hb); have n2_ := Aside0.mk (below_step (by repeat (first | (with_reducible first | exact HB.out | apply below_alloc | apply pw_below_drewN | apply below_drew1 | refine below_set ?_ GE101.out | refine below_set ?_ GE102.out) | exact HB.out)) hb); have n3_ := Aside0.mk (hbox); have n4_ := Aside0.mk ((by rw [hg]; exact (below_size (by repeat (first | (with_reducible first | exact HB.out | apply below_alloc | apply pw_below_drewN | apply below_drew1 | refine below_set ?_ GE101.out | refine below_set ?_ GE102.out) | exact HB.out))) : w.heap.size ≤ gb106)); have n5_ := Aside0.mk ((by rw [hg]; exact (below_size (by repeat (first | (with_reducible first | exact HB.out | apply below_alloc | apply pw_below_drewN | apply below_drew1 | refine below_set ?_ GE101.out | refine below_set ?_ GE102.out) | exact HB.out))) : w.heap.size ≤ gb106)); have n6_ := Aside0.mk ((bkL BK101 hg : gb101 ≠ gb106)); have n7_ := Aside0.mk ((bkG BK101 hg : gb106 ≠ gb101)); have n8_ := Aside0.mk ((bkL BK102 hg : gb102 ≠ gb106)); have n9_ := Aside0.mk ((bkG BK102 hg : gb106 ≠ gb102)); clear BK101; clear BK102; clear HB; have BK101 := n0_; have BK102 := n1_; have HB := n2_; have BK106 := n3_; have GW106 := n4_; have GE106 := n5_; have NB101_106 := n6_; have NB106_101 := n7_; have NB102_106 := n8_; have NB106_102 := n9_; clear n0_ n1_ n2_ n3_ n4_ n5_ n6_ n7_ n8_ n9_; clear hb hbox hg; have hnb13 := NB106_101.out; have hnc13 := NB101_106.out; have hnb14 := NB106_102.out; have hnc14 := NB102_106.out; have hcz15_0 : w12.cell? ⟨gb106, 0, none⟩ = some (.int .i64 0) := (blk_cell BK106.out 0).trans rfl; have hcz15_1 : w12.cell? ⟨gb106, 1, none⟩ = some (.int .i64 0) := (blk_cell BK106.out 1).trans rfl; have hfz15_0 := blk_frozen BK106.out 0; have hfz15_1 := blk_frozen BK106.out 1; have hcz16_0 : w12.cell? ⟨gb101, 0, none⟩ = some (.int .i64 a0_0) := (blk_cell BK101.out 0).trans rfl; have hcz16_1 : w12.cell? ⟨gb101, 1, none⟩ = some (.int .i64 a0_1) := (blk_cell BK101.out 1).trans rfl; have hcz16_2 : w12.cell? ⟨gb101, 2, none⟩ = some (.int .i64 a0_2) := (blk_cell BK101.out 2).trans rfl; have hfz16_0 := blk_frozen BK101.out 0; have hfz16_1 := blk_frozen BK101.out 1; have hfz16_2 := blk_frozen BK101.out 2) | ((with_reducible refine gate_callee (f := 33) rfl ?_); refine goesL_ (some 30) rfl rfl Try.func33 (by kernel_rfl) rfl #[.int .i64 a0_0, .int .i64 a0_1, .int .i64 a0_2] rfl (by (try simp only [List.map_toArray, List.map_cons, List.map_nil]); first | done | rfl | (simp only [List.length_drop, List.length_take]; rfl)) ?_; (with_reducible refine (dropperref02_Sag.calls k a0_0 a0_1 a0_2 t107 t108 t109 _ A5.out).mono ?_); rintro e w17 ⟨rfl, hb⟩; refine ⟨_, rfl, ?_⟩; have n0_ := Aside0.mk (blk_below (g := gb101) (o := .cells #[.int .i64 a0_0, .int .i64 a0_1, .int .i64 a0_2] 53 (0, 0)) (bkF2 BK101 NB101_106) hb); have n1_ := Aside0.mk (blk_below (g := gb102) (o := .cells #[.int .i64 a2_0, .int .i64 a2_1] 25 (0, 0)) (bkF2 BK102 NB102_106) hb); have n2_ := Aside0.mk (blk_below (g := gb106) (o := .cells #[.int .i64 t103, .int .i64 t104] 55 (0, 0)) (by (with_reducible repeat (first | refine blk_drewN ?_ _ | refine blk_drew ?_ | refine blk_alloc ?_ _)); refine blk_put (cs := #[.int .i64 t103, .int .i64 0]) ?_ 1 _ rfl; (with_reducible repeat (first | refine blk_drewN ?_ _ | refine blk_drew ?_ | refine blk_alloc ?_ _)); refine blk_put (cs := #[.int .i64 0, .int .i64 0]) ?_ 0 _ rfl; (with_reducible repeat (first | refine blk_drewN ?_ _ | refine blk_drew ?_ | refine blk_alloc ?_ _)); exact BK106.out) hb); have n3_ := Aside0.mk (below_step (by repeat (first | (with_reducible first | exact HB.out | apply below_alloc | apply pw_below_drewN | apply below_drew1 | refine below_set ?_ GE101.out | refine below_set ?_ GE102.out | refine below_set ?_ GE106.out) | exact HB.out)) hb); clear BK101; clear BK102; clear BK106; clear HB; have BK101 := n0_; have BK102 := n1_; have BK106 := n2_; have HB := n3_; clear n0_ n1_ n2_ n3_; (try clear hb); (try clear hb2); (try clear hk); (try clear hi)) | ((with_reducible refine gate_dst (N := 9) rfl ?_); refine box_event ?hg (N := 9) ?hd (cs := #[.int .i64 0, .int .i64 0]) (t := 55) ?hr ?_; (case hd => rfl); (case hg => rfl); (case hr => first | (go_simp; done) | (go_simp; rfl)); intro gb110 hg w18 hbox hb; have n0_ := Aside0.mk (bkB BK101 hb); have n1_ := Aside0.mk (bkB BK102 hb); have n2_ := Aside0.mk (bkB BK106 hb); have n3_ := Aside0.mk (below_step (by repeat (first | (with_reducible first | exact HB.out | apply below_alloc | apply pw_below_drewN | apply below_drew1 | refine below_set ?_ GE101.out | refine below_set ?_ GE102.out | refine below_set ?_ GE106.out) | exact HB.out)) hb); have n4_ := Aside0.mk (hbox); have n5_ := Aside0.mk ((by rw [hg]; exact (below_size (by repeat (first | (with_reducible first | exact HB.out | apply below_alloc | apply pw_below_drewN | apply below_drew1 | refine below_set ?_ GE101.out | refine below_set ?_ GE102.out | refine below_set ?_ GE106.out) | exact HB.out))) : w.heap.size ≤ gb110)); have n6_ := Aside0.mk ((by rw [hg]; exact (below_size (by repeat (first | (with_reducible first | exact HB.out | apply below_alloc | apply pw_below_drewN | apply below_drew1 | refine below_set ?_ GE101.out | refine below_set ?_ GE102.out | refine below_set ?_ GE106.out) | exact HB.out))) : w.heap.size ≤ gb110)); have n7_ := Aside0.mk ((bkL BK101 hg : gb101 ≠ gb110)); have n8_ := Aside0.mk ((bkG BK101 hg : gb110 ≠ gb101)); have n9_ := Aside0.mk ((bkL BK102 hg : gb102 ≠ gb110)); have n10_ := Aside0.mk ((bkG BK102 hg : gb110 ≠ gb102)); have n11_ := Aside0.mk ((bkL BK106 hg : gb106 ≠ gb110)); have n12_ := Aside0.mk ((bkG BK106 hg : gb110 ≠ gb106)); clear BK101; clear BK102; clear BK106; clear HB; have BK101 := n0_; have BK102 := n1_; have BK106 := n2_; have HB := n3_; have BK110 := n4_; have GW110 := n5_; have GE110 := n6_; have NB101_110 := n7_; have NB110_101 := n8_; have NB102_110 := n9_; have NB110_102 := n10_; have NB106_110 := n11_; have NB110_106 := n12_; clear n0_ n1_ n2_ n3_ n4_ n5_ n6_ n7_ n8_ n9_ n10_ n11_ n12_; clear hb hbox hg; have hnb19 := NB110_101.out; have hnc19 := NB101_110.out; have hnb20 := NB110_102.out; have hnc20 := NB102_110.out; have hnb21 := NB110_106.out; have hnc21 := NB106_110.out; have hcz22_0 : w18.cell? ⟨gb110, 0, none⟩ = some (.int .i64 0) := (blk_cell BK110.out 0).trans rfl; have hcz22_1 : w18.cell? ⟨gb110, 1, none⟩ = some (.int .i64 0) := (blk_cell BK110.out 1).trans rfl; have hfz22_0 := blk_frozen BK110.out 0; have hfz22_1 := blk_frozen BK110.out 1))
  (try simp only [Act.put, List.setIfInBounds_toArray, List.set_cons_zero, List.set_cons_succ])
  go_cut [40] (fun v40 wc => ∃ (kq : Nat) (x40_5 : Bool), v40 = .bool x40_5 ∧ Aside0 (dropperlaw02_WireSags.j0 kq a1 x40_5 a0_0 a0_1 a0_2 a2_0 a2_1 = some r) ∧ Aside0 (kq ≤ k) ∧ Aside0 (wc.heap[gb101]? = some (.cells #[.int .i64 a0_0, .int .i64 a0_1, .int .i64 a0_2] 53 (0, 0))) ∧ Aside0 (wc.heap[gb102]? = some (.cells #[.int .i64 a2_0, .int .i64 a2_1] 25 (0, 0))) ∧ Aside0 (wc.heap[gb106]? = some (.cells #[.int .i64 t103, .int .i64 t104] 55 (0, 0))) ∧ Aside0 (wc.heap[gb110]? = some (.cells #[.int .i64 t107, .int .i64 t108] 55 (0, 0))) ∧ Aside0 (Below w.heap.size w wc))
  case first =>
    have H := HC6.out
    clear HC6
    by_cases c23 : (!(t103 == t107) || (!(t104 == t108))) = true
    · rw [if_pos c23] at H
      have c23b0 : (!(t103 == t107) || (!(t104 == t108))) = true := c23
      clear c23
      (first | rw [c23b0] | (simp only [i64_w, i32_w]; rw [c23b0]) | skip)
      have H' := Aside0.mk H
      clear H
      have hnb24 := NB106_101.out
      have hnc24 := NB101_106.out
      have hnb25 := NB106_102.out
      have hnc25 := NB102_106.out
      have hnb26 := NB106_110.out
      have hnc26 := NB110_106.out
      have hcz27_0 : w18.cell? ⟨gb106, 0, none⟩ = some (.int .i64 t103) := (blk_cell BK106.out 0).trans rfl
      have hcz27_1 : w18.cell? ⟨gb106, 1, none⟩ = some (.int .i64 t104) := (blk_cell BK106.out 1).trans rfl
      have hfz27_0 := blk_frozen BK106.out 0
      have hfz27_1 := blk_frozen BK106.out 1
      have hnb28 := NB110_101.out
      have hnc28 := NB101_110.out
      have hnb29 := NB110_102.out
      have hnc29 := NB102_110.out
      have hcz30_0 : w18.cell? ⟨gb110, 0, none⟩ = some (.int .i64 0) := (blk_cell BK110.out 0).trans rfl
      have hcz30_1 : w18.cell? ⟨gb110, 1, none⟩ = some (.int .i64 0) := (blk_cell BK110.out 1).trans rfl
      have hfz30_0 := blk_frozen BK110.out 0
      have hfz30_1 := blk_frozen BK110.out 1
      go_wp2
      go_meet
      case rel => exact ⟨_, (true), (by first | rfl | (simp; done) | (simp [*]; done)), H', ⟨by first | omega | exact Nat.le_refl _⟩, ⟨by (with_reducible repeat (first | refine blk_drewN ?_ _ | refine blk_drew ?_ | refine blk_alloc ?_ _)); refine blk_far ?_ NB101_110.out _; (with_reducible repeat (first | refine blk_drewN ?_ _ | refine blk_drew ?_ | refine blk_alloc ?_ _)); refine blk_far ?_ NB101_110.out _; (with_reducible repeat (first | refine blk_drewN ?_ _ | refine blk_drew ?_ | refine blk_alloc ?_ _)); exact BK101.out⟩, ⟨by (with_reducible repeat (first | refine blk_drewN ?_ _ | refine blk_drew ?_ | refine blk_alloc ?_ _)); refine blk_far ?_ NB102_110.out _; (with_reducible repeat (first | refine blk_drewN ?_ _ | refine blk_drew ?_ | refine blk_alloc ?_ _)); refine blk_far ?_ NB102_110.out _; (with_reducible repeat (first | refine blk_drewN ?_ _ | refine blk_drew ?_ | refine blk_alloc ?_ _)); exact BK102.out⟩, ⟨by (with_reducible repeat (first | refine blk_drewN ?_ _ | refine blk_drew ?_ | refine blk_alloc ?_ _)); refine blk_far ?_ NB106_110.out _; (with_reducible repeat (first | refine blk_drewN ?_ _ | refine blk_drew ?_ | refine blk_alloc ?_ _)); refine blk_far ?_ NB106_110.out _; (with_reducible repeat (first | refine blk_drewN ?_ _ | refine blk_drew ?_ | refine blk_alloc ?_ _)); exact BK106.out⟩, ⟨by (with_reducible repeat (first | refine blk_drewN ?_ _ | refine blk_drew ?_ | refine blk_alloc ?_ _)); refine blk_put (cs := #[.int .i64 t107, .int .i64 0]) ?_ 1 _ rfl; (with_reducible repeat (first | refine blk_drewN ?_ _ | refine blk_drew ?_ | refine blk_alloc ?_ _)); refine blk_put (cs := #[.int .i64 0, .int .i64 0]) ?_ 0 _ rfl; (with_reducible repeat (first | refine blk_drewN ?_ _ | refine blk_drew ?_ | refine blk_alloc ?_ _)); exact BK110.out⟩, ⟨by repeat (first | (with_reducible first | exact HB.out | apply below_alloc | apply pw_below_drewN | apply below_drew1 | refine below_set ?_ GE101.out | refine below_set ?_ GE102.out | refine below_set ?_ GE106.out | refine below_set ?_ GE110.out) | exact HB.out)⟩⟩
    rw [if_neg c23] at H
    have c23b0 : (!(t103 == t107) || (!(t104 == t108))) = false := by simpa using c23
    clear c23
    (first | rw [c23b0] | (simp only [i64_w, i32_w]; rw [c23b0]) | skip)
    have H' := Aside0.mk H
    clear H
    have hnb31 := NB106_101.out
    have hnc31 := NB101_106.out
    have hnb32 := NB106_102.out
    have hnc32 := NB102_106.out
    have hnb33 := NB106_110.out
    have hnc33 := NB110_106.out
    have hcz34_0 : w18.cell? ⟨gb106, 0, none⟩ = some (.int .i64 t103) := (blk_cell BK106.out 0).trans rfl
    have hcz34_1 : w18.cell? ⟨gb106, 1, none⟩ = some (.int .i64 t104) := (blk_cell BK106.out 1).trans rfl
    have hfz34_0 := blk_frozen BK106.out 0
    have hfz34_1 := blk_frozen BK106.out 1
    have hnb35 := NB110_101.out
    have hnc35 := NB101_110.out
    have hnb36 := NB110_102.out
    have hnc36 := NB102_110.out
    have hcz37_0 : w18.cell? ⟨gb110, 0, none⟩ = some (.int .i64 0) := (blk_cell BK110.out 0).trans rfl
    have hcz37_1 : w18.cell? ⟨gb110, 1, none⟩ = some (.int .i64 0) := (blk_cell BK110.out 1).trans rfl
    have hfz37_0 := blk_frozen BK110.out 0
    have hfz37_1 := blk_frozen BK110.out 1
    go_wp2
    go_meet
    case rel => exact ⟨_, ((t105 != t109)), (by first | rfl | (simp; done) | (simp [*]; done)), H', ⟨by first | omega | exact Nat.le_refl _⟩, ⟨by (with_reducible repeat (first | refine blk_drewN ?_ _ | refine blk_drew ?_ | refine blk_alloc ?_ _)); refine blk_far ?_ NB101_110.out _; (with_reducible repeat (first | refine blk_drewN ?_ _ | refine blk_drew ?_ | refine blk_alloc ?_ _)); refine blk_far ?_ NB101_110.out _; (with_reducible repeat (first | refine blk_drewN ?_ _ | refine blk_drew ?_ | refine blk_alloc ?_ _)); exact BK101.out⟩, ⟨by (with_reducible repeat (first | refine blk_drewN ?_ _ | refine blk_drew ?_ | refine blk_alloc ?_ _)); refine blk_far ?_ NB102_110.out _; (with_reducible repeat (first | refine blk_drewN ?_ _ | refine blk_drew ?_ | refine blk_alloc ?_ _)); refine blk_far ?_ NB102_110.out _; (with_reducible repeat (first | refine blk_drewN ?_ _ | refine blk_drew ?_ | refine blk_alloc ?_ _)); exact BK102.out⟩, ⟨by (with_reducible repeat (first | refine blk_drewN ?_ _ | refine blk_drew ?_ | refine blk_alloc ?_ _)); refine blk_far ?_ NB106_110.out _; (with_reducible repeat (first | refine blk_drewN ?_ _ | refine blk_drew ?_ | refine blk_alloc ?_ _)); refine blk_far ?_ NB106_110.out _; (with_reducible repeat (first | refine blk_drewN ?_ _ | refine blk_drew ?_ | refine blk_alloc ?_ _)); exact BK106.out⟩, ⟨by (with_reducible repeat (first | refine blk_drewN ?_ _ | refine blk_drew ?_ | refine blk_alloc ?_ _)); refine blk_put (cs := #[.int .i64 t107, .int .i64 0]) ?_ 1 _ rfl; (with_reducible repeat (first | refine blk_drewN ?_ _ | refine blk_drew ?_ | refine blk_alloc ?_ _)); refine blk_put (cs := #[.int .i64 0, .int .i64 0]) ?_ 0 _ rfl; (with_reducible repeat (first | refine blk_drewN ?_ _ | refine blk_drew ?_ | refine blk_alloc ?_ _)); exact BK110.out⟩, ⟨by repeat (first | (with_reducible first | exact HB.out | apply below_alloc | apply pw_below_drewN | apply below_drew1 | refine below_set ?_ GE101.out | refine below_set ?_ GE102.out | refine below_set ?_ GE106.out | refine below_set ?_ GE110.out) | exact HB.out)⟩⟩
  case rest =>
    clear HC6
    try clear c1
    try clear c2
    try clear p2
    try clear c3
    try clear c7
    try clear c9
    try clear c13
    try clear c14
    try clear c19
    try clear c20
    try clear c21
    try clear c23
    try clear c23b0
    try clear c24
    try clear c25
    try clear c26
    try clear c28
    try clear c29
    try clear c31
    try clear c32
    try clear c33
    try clear c35
    try clear c36
    try clear hcz10_0
    try clear hcz10_1
    try clear hcz10_2
    try clear hcz15_0
    try clear hcz15_1
    try clear hcz16_0
    try clear hcz16_1
    try clear hcz16_2
    try clear hcz22_0
    try clear hcz22_1
    try clear hcz27_0
    try clear hcz27_1
    try clear hcz30_0
    try clear hcz30_1
    try clear hcz34_0
    try clear hcz34_1
    try clear hcz37_0
    try clear hcz37_1
    try clear hfz10_0
    try clear hfz10_1
    try clear hfz10_2
    try clear hfz15_0
    try clear hfz15_1
    try clear hfz16_0
    try clear hfz16_1
    try clear hfz16_2
    try clear hfz22_0
    try clear hfz22_1
    try clear hfz27_0
    try clear hfz27_1
    try clear hfz30_0
    try clear hfz30_1
    try clear hfz34_0
    try clear hfz34_1
    try clear hfz37_0
    try clear hfz37_1
    obtain ⟨kq, x40_5, rfl, HA, HJ5, BK101, BK102, BK106, BK110, HB⟩ := hcut
    cases kq with
    | zero => exact absurd HA.out (by simp [dropperlaw02_WireSags.j0])
    | succ kj5 =>
      have H := HA.out
      clear HA
      simp only [dropperlaw02_WireSags.j0] at H
      by_cases c38 : x40_5 = true
      · subst c38
        have H1 : (some false) = some r := by rw [if_pos rfl] at H; exact H
        clear H
        have H := H1
        clear H1
        exact absurd (hT.symm.trans (Option.some.inj H).symm) (by decide)
      replace c38 := Bool.eq_false_iff.mpr c38
      subst c38
      have H1 : ((wire_Drop.f kj5 a0_0 a0_1 a0_2 a1).bind fun bt111 => ((dropperref02_Drop.f kj5 a0_0 a0_1 a0_2 a1).bind fun bt114 => (if (!(bt111.1 == bt114.1) || (!(bt111.2.1 == bt114.2.1))) = true then (dropperlaw02_WireSags.j1 kj5 true a0_0 a0_1 a0_2 a2_0 a2_1) else (dropperlaw02_WireSags.j1 kj5 (bt111.2.2 != bt114.2.2) a0_0 a0_1 a0_2 a2_0 a2_1)))) = some r := by rw [if_neg (show ¬ (false = true) by decide)] at H; exact H
      clear H
      have H := H1
      clear H1
      replace H := Option.bind_eq_some_iff.mp H
      obtain ⟨⟨t111, t112, t113⟩, A390, H⟩ := H
      replace H : ((dropperref02_Drop.f kj5 a0_0 a0_1 a0_2 a1).bind fun bt114 => (if (!(t111 == bt114.1) || (!(t112 == bt114.2.1))) = true then (dropperlaw02_WireSags.j1 kj5 true a0_0 a0_1 a0_2 a2_0 a2_1) else (dropperlaw02_WireSags.j1 kj5 (t113 != bt114.2.2) a0_0 a0_1 a0_2 a2_0 a2_1))) = some r := H
      have A39 := Aside0.mk A390
      clear A390
      replace H := Option.bind_eq_some_iff.mp H
      obtain ⟨⟨t114, t115, t116⟩, A400, H⟩ := H
      replace H : (if (!(t111 == t114) || (!(t112 == t115))) = true then (dropperlaw02_WireSags.j1 kj5 true a0_0 a0_1 a0_2 a2_0 a2_1) else (dropperlaw02_WireSags.j1 kj5 (t113 != t116) a0_0 a0_1 a0_2 a2_0 a2_1)) = some r := H
      have A40 := Aside0.mk A400
      clear A400
      have HC41 := Aside0.mk H
      clear H
      have hnb42 := NB101_102.out
      have hnc42 := NB102_101.out
      have hnb43 := NB101_106.out
      have hnc43 := NB106_101.out
      have hnb44 := NB101_110.out
      have hnc44 := NB110_101.out
      have hcz45_0 : wc.cell? ⟨gb101, 0, none⟩ = some (.int .i64 a0_0) := (blk_cell BK101.out 0).trans rfl
      have hcz45_1 : wc.cell? ⟨gb101, 1, none⟩ = some (.int .i64 a0_1) := (blk_cell BK101.out 1).trans rfl
      have hcz45_2 : wc.cell? ⟨gb101, 2, none⟩ = some (.int .i64 a0_2) := (blk_cell BK101.out 2).trans rfl
      have hfz45_0 := blk_frozen BK101.out 0
      have hfz45_1 := blk_frozen BK101.out 1
      have hfz45_2 := blk_frozen BK101.out 2
      go_upto_region 7 with (first | ((with_reducible refine gate_callee (f := 34) rfl ?_); refine goesL_ (some 49) rfl rfl Try.func34 (by kernel_rfl) rfl #[.int .i64 a0_0, .int .i64 a0_1, .int .i64 a0_2, .int .i64 a1] rfl (by (try simp only [List.map_toArray, List.map_cons, List.map_nil]); first | done | rfl | (simp only [List.length_drop, List.length_take]; rfl)) ?_; (with_reducible refine (wire_Drop.calls kj5 a0_0 a0_1 a0_2 a1 t111 t112 t113 _ A39.out).mono ?_); rintro e w46 ⟨rfl, hb⟩; refine ⟨_, rfl, ?_⟩; have n0_ := Aside0.mk (bkB BK101 hb); have n1_ := Aside0.mk (bkB BK102 hb); have n2_ := Aside0.mk (bkB BK106 hb); have n3_ := Aside0.mk (bkB BK110 hb); have n4_ := Aside0.mk (below_step (by repeat (first | (with_reducible first | exact HB.out | apply below_alloc | apply pw_below_drewN | apply below_drew1 | refine below_set ?_ GE101.out | refine below_set ?_ GE102.out | refine below_set ?_ GE106.out | refine below_set ?_ GE110.out) | exact HB.out)) hb); clear BK101; clear BK102; clear BK106; clear BK110; clear HB; have BK101 := n0_; have BK102 := n1_; have BK106 := n2_; have BK110 := n3_; have HB := n4_; clear n0_ n1_ n2_ n3_ n4_; (try clear hb); (try clear hb2); (try clear hk); (try clear hi); have hnb47 := NB106_102.out; have hnc47 := NB102_106.out; have hnb48 := NB106_110.out; have hnc48 := NB110_106.out; have hcz49_0 : w46.cell? ⟨gb106, 0, none⟩ = some (.int .i64 t103) := (blk_cell BK106.out 0).trans rfl; have hcz49_1 : w46.cell? ⟨gb106, 1, none⟩ = some (.int .i64 t104) := (blk_cell BK106.out 1).trans rfl; have hfz49_0 := blk_frozen BK106.out 0; have hfz49_1 := blk_frozen BK106.out 1; have hcz50_0 : w46.cell? ⟨gb101, 0, none⟩ = some (.int .i64 a0_0) := (blk_cell BK101.out 0).trans rfl; have hcz50_1 : w46.cell? ⟨gb101, 1, none⟩ = some (.int .i64 a0_1) := (blk_cell BK101.out 1).trans rfl; have hcz50_2 : w46.cell? ⟨gb101, 2, none⟩ = some (.int .i64 a0_2) := (blk_cell BK101.out 2).trans rfl; have hfz50_0 := blk_frozen BK101.out 0; have hfz50_1 := blk_frozen BK101.out 1; have hfz50_2 := blk_frozen BK101.out 2) | ((with_reducible refine gate_callee (f := 35) rfl ?_); refine goesL_ (some 60) rfl rfl Try.func35 (by kernel_rfl) rfl #[.int .i64 a0_0, .int .i64 a0_1, .int .i64 a0_2, .int .i64 a1] rfl (by (try simp only [List.map_toArray, List.map_cons, List.map_nil]); first | done | rfl | (simp only [List.length_drop, List.length_take]; rfl)) ?_; (with_reducible refine (dropperref02_Drop.calls kj5 a0_0 a0_1 a0_2 a1 t114 t115 t116 _ A40.out).mono ?_); rintro e w51 ⟨rfl, hb⟩; refine ⟨_, rfl, ?_⟩; have n0_ := Aside0.mk (blk_below (g := gb101) (o := .cells #[.int .i64 a0_0, .int .i64 a0_1, .int .i64 a0_2] 53 (0, 0)) (bkF2 BK101 NB101_106) hb); have n1_ := Aside0.mk (blk_below (g := gb102) (o := .cells #[.int .i64 a2_0, .int .i64 a2_1] 25 (0, 0)) (bkF2 BK102 NB102_106) hb); have n2_ := Aside0.mk (blk_below (g := gb106) (o := .cells #[.int .i64 t111, .int .i64 t112] 55 (0, 0)) (by (with_reducible repeat (first | refine blk_drewN ?_ _ | refine blk_drew ?_ | refine blk_alloc ?_ _)); refine blk_put (cs := #[.int .i64 t111, .int .i64 t104]) ?_ 1 _ rfl; (with_reducible repeat (first | refine blk_drewN ?_ _ | refine blk_drew ?_ | refine blk_alloc ?_ _)); refine blk_put (cs := #[.int .i64 t103, .int .i64 t104]) ?_ 0 _ rfl; (with_reducible repeat (first | refine blk_drewN ?_ _ | refine blk_drew ?_ | refine blk_alloc ?_ _)); exact BK106.out) hb); have n3_ := Aside0.mk (blk_below (g := gb110) (o := .cells #[.int .i64 t107, .int .i64 t108] 55 (0, 0)) (bkF2 BK110 NB110_106) hb); have n4_ := Aside0.mk (below_step (by repeat (first | (with_reducible first | exact HB.out | apply below_alloc | apply pw_below_drewN | apply below_drew1 | refine below_set ?_ GE101.out | refine below_set ?_ GE102.out | refine below_set ?_ GE106.out | refine below_set ?_ GE110.out) | exact HB.out)) hb); clear BK101; clear BK102; clear BK106; clear BK110; clear HB; have BK101 := n0_; have BK102 := n1_; have BK106 := n2_; have BK110 := n3_; have HB := n4_; clear n0_ n1_ n2_ n3_ n4_; (try clear hb); (try clear hb2); (try clear hk); (try clear hi); have hnb52 := NB110_102.out; have hnc52 := NB102_110.out; have hcz53_0 : w51.cell? ⟨gb110, 0, none⟩ = some (.int .i64 t107) := (blk_cell BK110.out 0).trans rfl; have hcz53_1 : w51.cell? ⟨gb110, 1, none⟩ = some (.int .i64 t108) := (blk_cell BK110.out 1).trans rfl; have hfz53_0 := blk_frozen BK110.out 0; have hfz53_1 := blk_frozen BK110.out 1))
      (try simp only [Act.put, List.setIfInBounds_toArray, List.set_cons_zero, List.set_cons_succ])
      go_cut [70] (fun v70 wc => ∃ (kq : Nat) (x70_40 : Bool), v70 = .bool x70_40 ∧ Aside0 (dropperlaw02_WireSags.j1 kq x70_40 a0_0 a0_1 a0_2 a2_0 a2_1 = some r) ∧ Aside0 (kq ≤ kj5) ∧ Aside0 (wc.heap[gb101]? = some (.cells #[.int .i64 a0_0, .int .i64 a0_1, .int .i64 a0_2] 53 (0, 0))) ∧ Aside0 (wc.heap[gb102]? = some (.cells #[.int .i64 a2_0, .int .i64 a2_1] 25 (0, 0))) ∧ Aside0 (wc.heap[gb106]? = some (.cells #[.int .i64 t111, .int .i64 t112] 55 (0, 0))) ∧ Aside0 (wc.heap[gb110]? = some (.cells #[.int .i64 t114, .int .i64 t115] 55 (0, 0))) ∧ Aside0 (Below w.heap.size w wc))
      case first =>
        have H := HC41.out
        clear HC41
        by_cases c54 : (!(t111 == t114) || (!(t112 == t115))) = true
        · rw [if_pos c54] at H
          have c54b0 : (!(t111 == t114) || (!(t112 == t115))) = true := c54
          clear c54
          (first | rw [c54b0] | (simp only [i64_w, i32_w]; rw [c54b0]) | skip)
          have H' := Aside0.mk H
          clear H
          have hnb55 := NB106_101.out
          have hnc55 := NB101_106.out
          have hnb56 := NB106_102.out
          have hnc56 := NB102_106.out
          have hnb57 := NB106_110.out
          have hnc57 := NB110_106.out
          have hcz58_0 : w51.cell? ⟨gb106, 0, none⟩ = some (.int .i64 t111) := (blk_cell BK106.out 0).trans rfl
          have hcz58_1 : w51.cell? ⟨gb106, 1, none⟩ = some (.int .i64 t112) := (blk_cell BK106.out 1).trans rfl
          have hfz58_0 := blk_frozen BK106.out 0
          have hfz58_1 := blk_frozen BK106.out 1
          have hnb59 := NB110_101.out
          have hnc59 := NB101_110.out
          have hnb60 := NB110_102.out
          have hnc60 := NB102_110.out
          have hcz61_0 : w51.cell? ⟨gb110, 0, none⟩ = some (.int .i64 t107) := (blk_cell BK110.out 0).trans rfl
          have hcz61_1 : w51.cell? ⟨gb110, 1, none⟩ = some (.int .i64 t108) := (blk_cell BK110.out 1).trans rfl
          have hfz61_0 := blk_frozen BK110.out 0
          have hfz61_1 := blk_frozen BK110.out 1
          go_wp2
          go_meet
          case rel => exact ⟨_, (true), (by first | rfl | (simp; done) | (simp [*]; done)), H', ⟨by have := HJ5.out; first | omega | exact Nat.le_refl _⟩, ⟨by (with_reducible repeat (first | refine blk_drewN ?_ _ | refine blk_drew ?_ | refine blk_alloc ?_ _)); refine blk_far ?_ NB101_110.out _; (with_reducible repeat (first | refine blk_drewN ?_ _ | refine blk_drew ?_ | refine blk_alloc ?_ _)); refine blk_far ?_ NB101_110.out _; (with_reducible repeat (first | refine blk_drewN ?_ _ | refine blk_drew ?_ | refine blk_alloc ?_ _)); exact BK101.out⟩, ⟨by (with_reducible repeat (first | refine blk_drewN ?_ _ | refine blk_drew ?_ | refine blk_alloc ?_ _)); refine blk_far ?_ NB102_110.out _; (with_reducible repeat (first | refine blk_drewN ?_ _ | refine blk_drew ?_ | refine blk_alloc ?_ _)); refine blk_far ?_ NB102_110.out _; (with_reducible repeat (first | refine blk_drewN ?_ _ | refine blk_drew ?_ | refine blk_alloc ?_ _)); exact BK102.out⟩, ⟨by (with_reducible repeat (first | refine blk_drewN ?_ _ | refine blk_drew ?_ | refine blk_alloc ?_ _)); refine blk_far ?_ NB106_110.out _; (with_reducible repeat (first | refine blk_drewN ?_ _ | refine blk_drew ?_ | refine blk_alloc ?_ _)); refine blk_far ?_ NB106_110.out _; (with_reducible repeat (first | refine blk_drewN ?_ _ | refine blk_drew ?_ | refine blk_alloc ?_ _)); exact BK106.out⟩, ⟨by (with_reducible repeat (first | refine blk_drewN ?_ _ | refine blk_drew ?_ | refine blk_alloc ?_ _)); refine blk_put (cs := #[.int .i64 t114, .int .i64 t108]) ?_ 1 _ rfl; (with_reducible repeat (first | refine blk_drewN ?_ _ | refine blk_drew ?_ | refine blk_alloc ?_ _)); refine blk_put (cs := #[.int .i64 t107, .int .i64 t108]) ?_ 0 _ rfl; (with_reducible repeat (first | refine blk_drewN ?_ _ | refine blk_drew ?_ | refine blk_alloc ?_ _)); exact BK110.out⟩, ⟨by repeat (first | (with_reducible first | exact HB.out | apply below_alloc | apply pw_below_drewN | apply below_drew1 | refine below_set ?_ GE101.out | refine below_set ?_ GE102.out | refine below_set ?_ GE106.out | refine below_set ?_ GE110.out) | exact HB.out)⟩⟩
        rw [if_neg c54] at H
        have c54b0 : (!(t111 == t114) || (!(t112 == t115))) = false := by simpa using c54
        clear c54
        (first | rw [c54b0] | (simp only [i64_w, i32_w]; rw [c54b0]) | skip)
        have H' := Aside0.mk H
        clear H
        have hnb62 := NB106_101.out
        have hnc62 := NB101_106.out
        have hnb63 := NB106_102.out
        have hnc63 := NB102_106.out
        have hnb64 := NB106_110.out
        have hnc64 := NB110_106.out
        have hcz65_0 : w51.cell? ⟨gb106, 0, none⟩ = some (.int .i64 t111) := (blk_cell BK106.out 0).trans rfl
        have hcz65_1 : w51.cell? ⟨gb106, 1, none⟩ = some (.int .i64 t112) := (blk_cell BK106.out 1).trans rfl
        have hfz65_0 := blk_frozen BK106.out 0
        have hfz65_1 := blk_frozen BK106.out 1
        have hnb66 := NB110_101.out
        have hnc66 := NB101_110.out
        have hnb67 := NB110_102.out
        have hnc67 := NB102_110.out
        have hcz68_0 : w51.cell? ⟨gb110, 0, none⟩ = some (.int .i64 t107) := (blk_cell BK110.out 0).trans rfl
        have hcz68_1 : w51.cell? ⟨gb110, 1, none⟩ = some (.int .i64 t108) := (blk_cell BK110.out 1).trans rfl
        have hfz68_0 := blk_frozen BK110.out 0
        have hfz68_1 := blk_frozen BK110.out 1
        go_wp2
        go_meet
        case rel => exact ⟨_, ((t113 != t116)), (by first | rfl | (simp; done) | (simp [*]; done)), H', ⟨by have := HJ5.out; first | omega | exact Nat.le_refl _⟩, ⟨by (with_reducible repeat (first | refine blk_drewN ?_ _ | refine blk_drew ?_ | refine blk_alloc ?_ _)); refine blk_far ?_ NB101_110.out _; (with_reducible repeat (first | refine blk_drewN ?_ _ | refine blk_drew ?_ | refine blk_alloc ?_ _)); refine blk_far ?_ NB101_110.out _; (with_reducible repeat (first | refine blk_drewN ?_ _ | refine blk_drew ?_ | refine blk_alloc ?_ _)); exact BK101.out⟩, ⟨by (with_reducible repeat (first | refine blk_drewN ?_ _ | refine blk_drew ?_ | refine blk_alloc ?_ _)); refine blk_far ?_ NB102_110.out _; (with_reducible repeat (first | refine blk_drewN ?_ _ | refine blk_drew ?_ | refine blk_alloc ?_ _)); refine blk_far ?_ NB102_110.out _; (with_reducible repeat (first | refine blk_drewN ?_ _ | refine blk_drew ?_ | refine blk_alloc ?_ _)); exact BK102.out⟩, ⟨by (with_reducible repeat (first | refine blk_drewN ?_ _ | refine blk_drew ?_ | refine blk_alloc ?_ _)); refine blk_far ?_ NB106_110.out _; (with_reducible repeat (first | refine blk_drewN ?_ _ | refine blk_drew ?_ | refine blk_alloc ?_ _)); refine blk_far ?_ NB106_110.out _; (with_reducible repeat (first | refine blk_drewN ?_ _ | refine blk_drew ?_ | refine blk_alloc ?_ _)); exact BK106.out⟩, ⟨by (with_reducible repeat (first | refine blk_drewN ?_ _ | refine blk_drew ?_ | refine blk_alloc ?_ _)); refine blk_put (cs := #[.int .i64 t114, .int .i64 t108]) ?_ 1 _ rfl; (with_reducible repeat (first | refine blk_drewN ?_ _ | refine blk_drew ?_ | refine blk_alloc ?_ _)); refine blk_put (cs := #[.int .i64 t107, .int .i64 t108]) ?_ 0 _ rfl; (with_reducible repeat (first | refine blk_drewN ?_ _ | refine blk_drew ?_ | refine blk_alloc ?_ _)); exact BK110.out⟩, ⟨by repeat (first | (with_reducible first | exact HB.out | apply below_alloc | apply pw_below_drewN | apply below_drew1 | refine below_set ?_ GE101.out | refine below_set ?_ GE102.out | refine below_set ?_ GE106.out | refine below_set ?_ GE110.out) | exact HB.out)⟩⟩
      case rest =>
        clear HC41
        try clear c1
        try clear c2
        try clear p2
        try clear c3
        try clear c4
        try clear c5
        try clear c6
        try clear c7
        try clear c9
        try clear c13
        try clear c14
        try clear c19
        try clear c20
        try clear c21
        try clear c23
        try clear c23b0
        try clear c24
        try clear c25
        try clear c26
        try clear c28
        try clear c29
        try clear c31
        try clear c32
        try clear c33
        try clear c34
        try clear c35
        try clear c36
        try clear c38
        try clear c42
        try clear c43
        try clear c44
        try clear c47
        try clear c48
        try clear c52
        try clear c54
        try clear c54b0
        try clear c55
        try clear c56
        try clear c57
        try clear c59
        try clear c60
        try clear c62
        try clear c63
        try clear c64
        try clear c66
        try clear c67
        try clear hcz10_0
        try clear hcz10_1
        try clear hcz10_2
        try clear hcz15_0
        try clear hcz15_1
        try clear hcz16_0
        try clear hcz16_1
        try clear hcz16_2
        try clear hcz22_0
        try clear hcz22_1
        try clear hcz27_0
        try clear hcz27_1
        try clear hcz30_0
        try clear hcz30_1
        try clear hcz34_0
        try clear hcz34_1
        try clear hcz37_0
        try clear hcz37_1
        try clear hcz45_0
        try clear hcz45_1
        try clear hcz45_2
        try clear hcz49_0
        try clear hcz49_1
        try clear hcz50_0
        try clear hcz50_1
        try clear hcz50_2
        try clear hcz53_0
        try clear hcz53_1
        try clear hcz58_0
        try clear hcz58_1
        try clear hcz61_0
        try clear hcz61_1
        try clear hcz65_0
        try clear hcz65_1
        try clear hcz68_0
        try clear hcz68_1
        try clear hfz10_0
        try clear hfz10_1
        try clear hfz10_2
        try clear hfz15_0
        try clear hfz15_1
        try clear hfz16_0
        try clear hfz16_1
        try clear hfz16_2
        try clear hfz22_0
        try clear hfz22_1
        try clear hfz27_0
        try clear hfz27_1
        try clear hfz30_0
        try clear hfz30_1
        try clear hfz34_0
        try clear hfz34_1
        try clear hfz37_0
        try clear hfz37_1
        try clear hfz45_0
        try clear hfz45_1
        try clear hfz45_2
        try clear hfz49_0
        try clear hfz49_1
        try clear hfz50_0
        try clear hfz50_1
        try clear hfz50_2
        try clear hfz53_0
        try clear hfz53_1
        try clear hfz58_0
        try clear hfz58_1
        try clear hfz61_0
        try clear hfz61_1
        try clear hfz65_0
        try clear hfz65_1
        try clear hfz68_0
        try clear hfz68_1
        try clear p2
        obtain ⟨kq, x70_40, rfl, HA, HJ40, BK101, BK102, BK106, BK110, HB⟩ := hcut
        cases kq with
        | zero => exact absurd HA.out (by simp [dropperlaw02_WireSags.j1])
        | succ kj40 =>
          have H := HA.out
          clear HA
          simp only [dropperlaw02_WireSags.j1] at H
          by_cases c69 : x70_40 = true
          · subst c69
            have H1 : (some false) = some r := by rw [if_pos rfl] at H; exact H
            clear H
            have H := H1
            clear H1
            exact absurd (hT.symm.trans (Option.some.inj H).symm) (by decide)
          replace c69 := Bool.eq_false_iff.mpr c69
          subst c69
          have H1 : ((wire_Droppers.f kj40 a0_0 a0_1 a0_2 a2_0 a2_1).bind fun bt117 => ((dropperref02_Droppers.f kj40 a0_0 a0_1 a0_2 a2_0 a2_1).bind fun bt121 => (if bt117.2 = bt121.2 then ((dropperlaw02_sameRatios.f kj40 bt117.1 bt121.1).bind fun t125 => (if t125 = true then ((dropperlaw02_Awake.f kj40).bind fun t126 => (some t126)) else (some false))) else (some false)))) = some r := by rw [if_neg (show ¬ (false = true) by decide)] at H; exact H
          clear H
          have H := H1
          clear H1
          replace H := Option.bind_eq_some_iff.mp H
          obtain ⟨⟨t117, t118⟩, A700, H⟩ := H
          replace H : ((dropperref02_Droppers.f kj40 a0_0 a0_1 a0_2 a2_0 a2_1).bind fun bt121 => (if t118 = bt121.2 then ((dropperlaw02_sameRatios.f kj40 t117 bt121.1).bind fun t125 => (if t125 = true then ((dropperlaw02_Awake.f kj40).bind fun t126 => (some t126)) else (some false))) else (some false))) = some r := H
          have A70 := Aside0.mk A700
          clear A700
          replace H := Option.bind_eq_some_iff.mp H
          obtain ⟨⟨t121, t122⟩, A710, H⟩ := H
          replace H : (if t118 = t122 then ((dropperlaw02_sameRatios.f kj40 t117 t121).bind fun t125 => (if t125 = true then ((dropperlaw02_Awake.f kj40).bind fun t126 => (some t126)) else (some false))) else (some false)) = some r := H
          have A71 := Aside0.mk A710
          clear A710
          by_cases c72 : t118 = t122
          rotate_left
          · rw [if_neg c72] at H
            have c72b0 : (t118 == t122) = false := beq_eq_false_iff_ne.mpr c72
            have c72b1 : (t118 != t122) = true := bne_iff_ne.mpr c72
            exact absurd (hT.symm.trans (Option.some.inj H).symm) (by decide)

          rw [if_pos c72] at H
          have c72b0 : (t118 == t122) = true := beq_iff_eq.mpr c72
          have c72b1 : (t118 != t122) = false := bne_eq_false_iff_eq.mpr c72
          clear c72
          replace H := Option.bind_eq_some_iff.mp H
          obtain ⟨t125, A730, H⟩ := H
          replace H : (if t125 = true then ((dropperlaw02_Awake.f kj40).bind fun t126 => (some t126)) else (some false)) = some r := H
          have A73 := Aside0.mk A730
          clear A730
          by_cases c74 : t125 = true
          rotate_left
          · replace c74 := Bool.eq_false_iff.mpr c74
            subst c74
            have H1 : (some false) = some r := by rw [if_neg (show ¬ (false = true) by decide)] at H; exact H
            clear H
            have H := H1
            clear H1
            exact absurd (hT.symm.trans (Option.some.inj H).symm) (by decide)
          subst c74
          have H1 : ((dropperlaw02_Awake.f kj40).bind fun t126 => (some t126)) = some r := by rw [if_pos rfl] at H; exact H
          clear H
          have H := H1
          clear H1
          replace H := Option.bind_eq_some_iff.mp H
          obtain ⟨t126, A750, H⟩ := H
          replace H : (some t126) = some r := H
          have A75 := Aside0.mk A750
          clear A750
          clear hT
          obtain rfl := Option.some.inj H
          have hnb76 := NB101_102.out
          have hnc76 := NB102_101.out
          have hnb77 := NB101_106.out
          have hnc77 := NB106_101.out
          have hnb78 := NB101_110.out
          have hnc78 := NB110_101.out
          have hcz79_0 : wc.cell? ⟨gb101, 0, none⟩ = some (.int .i64 a0_0) := (blk_cell BK101.out 0).trans rfl
          have hcz79_1 : wc.cell? ⟨gb101, 1, none⟩ = some (.int .i64 a0_1) := (blk_cell BK101.out 1).trans rfl
          have hcz79_2 : wc.cell? ⟨gb101, 2, none⟩ = some (.int .i64 a0_2) := (blk_cell BK101.out 2).trans rfl
          have hfz79_0 := blk_frozen BK101.out 0
          have hfz79_1 := blk_frozen BK101.out 1
          have hfz79_2 := blk_frozen BK101.out 2
          have hnb80 := NB102_106.out
          have hnc80 := NB106_102.out
          have hnb81 := NB102_110.out
          have hnc81 := NB110_102.out
          have hcz82_0 : wc.cell? ⟨gb102, 0, none⟩ = some (.int .i64 a2_0) := (blk_cell BK102.out 0).trans rfl
          have hcz82_1 : wc.cell? ⟨gb102, 1, none⟩ = some (.int .i64 a2_1) := (blk_cell BK102.out 1).trans rfl
          have hfz82_0 := blk_frozen BK102.out 0
          have hfz82_1 := blk_frozen BK102.out 1
          go_wp2_with (first | ((with_reducible refine gate_callee (f := 36) rfl ?_); refine goesL_ (some 82) rfl rfl Try.func36 (by kernel_rfl) rfl #[.int .i64 a0_0, .int .i64 a0_1, .int .i64 a0_2, .int .i64 a2_0, .int .i64 a2_1] rfl (by (try simp only [List.map_toArray, List.map_cons, List.map_nil]); first | done | rfl | (simp only [List.length_drop, List.length_take]; rfl)) ?_; (with_reducible refine (wire_Droppers.calls kj40 a0_0 a0_1 a0_2 a2_0 a2_1 t117 t118 _ A70.out).mono ?_); rintro e w83 ⟨v119, rfl, ho0, hb⟩; refine ⟨_, rfl, ?_⟩; have n0_ := Aside0.mk (Kd.R_lower (Kd.R_newB (Kd.R_newB ho0 (g := gb106) (o := .cells #[.int .i64 t111, .int .i64 t112] 55 (0, 0)) (bkU BK106)) (g := gb110) (o := .cells #[.int .i64 t114, .int .i64 t115] 55 (0, 0)) (bkU BK110)) (below_size (by repeat (first | (with_reducible first | exact HB.out | apply below_alloc | apply pw_below_drewN | apply below_drew1 | refine below_set ?_ GE101.out | refine below_set ?_ GE102.out | refine below_set ?_ GE106.out | refine below_set ?_ GE110.out) | exact HB.out)))); have n1_ := Aside0.mk (bkB BK101 hb); have n2_ := Aside0.mk (bkB BK102 hb); have n3_ := Aside0.mk (bkB BK106 hb); have n4_ := Aside0.mk (bkB BK110 hb); have n5_ := Aside0.mk (below_step (by repeat (first | (with_reducible first | exact HB.out | apply below_alloc | apply pw_below_drewN | apply below_drew1 | refine below_set ?_ GE101.out | refine below_set ?_ GE102.out | refine below_set ?_ GE106.out | refine below_set ?_ GE110.out) | exact HB.out)) hb); clear BK101; clear BK102; clear BK106; clear BK110; clear HB; have HO120 := n0_; have BK101 := n1_; have BK102 := n2_; have BK106 := n3_; have BK110 := n4_; have HB := n5_; clear n0_ n1_ n2_ n3_ n4_ n5_; (try clear hb); (try clear hb2); (try clear hk); (try clear hi); (try clear ho0); have hcz84_0 : w83.cell? ⟨gb101, 0, none⟩ = some (.int .i64 a0_0) := (blk_cell BK101.out 0).trans rfl; have hcz84_1 : w83.cell? ⟨gb101, 1, none⟩ = some (.int .i64 a0_1) := (blk_cell BK101.out 1).trans rfl; have hcz84_2 : w83.cell? ⟨gb101, 2, none⟩ = some (.int .i64 a0_2) := (blk_cell BK101.out 2).trans rfl; have hfz84_0 := blk_frozen BK101.out 0; have hfz84_1 := blk_frozen BK101.out 1; have hfz84_2 := blk_frozen BK101.out 2; have hcz85_0 : w83.cell? ⟨gb102, 0, none⟩ = some (.int .i64 a2_0) := (blk_cell BK102.out 0).trans rfl; have hcz85_1 : w83.cell? ⟨gb102, 1, none⟩ = some (.int .i64 a2_1) := (blk_cell BK102.out 1).trans rfl; have hfz85_0 := blk_frozen BK102.out 0; have hfz85_1 := blk_frozen BK102.out 1) | ((with_reducible refine gate_callee (f := 37) rfl ?_); refine goesL_ (some 96) rfl rfl Try.func37 (by kernel_rfl) rfl #[.int .i64 a0_0, .int .i64 a0_1, .int .i64 a0_2, .int .i64 a2_0, .int .i64 a2_1] rfl (by (try simp only [List.map_toArray, List.map_cons, List.map_nil]); first | done | rfl | (simp only [List.length_drop, List.length_take]; rfl)) ?_; (with_reducible refine (dropperref02_Droppers.calls kj40 a0_0 a0_1 a0_2 a2_0 a2_1 t121 t122 _ A71.out).mono ?_); rintro e w86 ⟨v123, rfl, ho0, hb⟩; refine ⟨_, rfl, ?_⟩; have n0_ := Aside0.mk (Kd.R_elder' (by (with_reducible repeat (first | apply Kd.R_alloc | apply Kd.R_drewN | apply Kd.R_drew)); exact HO120.out) (Kd.R_base ho0) hb); have n1_ := Aside0.mk (Kd.R_lower (Kd.R_newB (Kd.R_newB (Kd.R_new' ho0 (Kd.R_lt (by (with_reducible repeat (first | apply Kd.R_alloc | apply Kd.R_drewN | apply Kd.R_drew)); exact HO120.out))) (g := gb106) (o := .cells #[.int .i64 t111, .int .i64 t112] 55 (0, 0)) (bkU BK106)) (g := gb110) (o := .cells #[.int .i64 t114, .int .i64 t115] 55 (0, 0)) (bkU BK110)) (below_size (by repeat (first | (with_reducible first | exact HB.out | apply below_alloc | apply pw_below_drewN | apply below_drew1 | refine below_set ?_ GE101.out | refine below_set ?_ GE102.out | refine below_set ?_ GE106.out | refine below_set ?_ GE110.out) | exact HB.out)))); have n2_ := Aside0.mk (bkB BK101 hb); have n3_ := Aside0.mk (bkB BK102 hb); have n4_ := Aside0.mk (bkB BK106 hb); have n5_ := Aside0.mk (bkB BK110 hb); have n6_ := Aside0.mk (below_step (by repeat (first | (with_reducible first | exact HB.out | apply below_alloc | apply pw_below_drewN | apply below_drew1 | refine below_set ?_ GE101.out | refine below_set ?_ GE102.out | refine below_set ?_ GE106.out | refine below_set ?_ GE110.out) | exact HB.out)) hb); clear HO120; clear BK101; clear BK102; clear BK106; clear BK110; clear HB; have HO120 := n0_; have HO124 := n1_; have BK101 := n2_; have BK102 := n3_; have BK106 := n4_; have BK110 := n5_; have HB := n6_; clear n0_ n1_ n2_ n3_ n4_ n5_ n6_; (try clear hb); (try clear hb2); (try clear hk); (try clear hi); (try clear ho0); obtain ⟨Ao87, co87, eo87⟩ := Kd.R_slice HO120.out; subst eo87; obtain ⟨Ao88, co88, eo88⟩ := Kd.R_slice HO124.out; subst eo88) | (go_at_call 38; (with_reducible refine (dropperlaw02_sameRatios.calls kj40 _ _ t117 _ _ t121 true _ ?side1 ?side2 ?side3 ?side4 A73.out).mono ?_); (case side1 => repeat (first | exact (Kd.R_reads' HO120.out).2.2 | (with_reducible refine Kd.C_alloc ?_ _) | (with_reducible refine Kd.C_drewN ?_ _) | (with_reducible refine Kd.C_drew ?_))); (case side2 => exact (Kd.R_reads' HO120.out).2.1); (case side3 => repeat (first | exact (Kd.R_reads' HO124.out).2.2 | (with_reducible refine Kd.C_alloc ?_ _) | (with_reducible refine Kd.C_drewN ?_ _) | (with_reducible refine Kd.C_drew ?_))); (case side4 => exact (Kd.R_reads' HO124.out).2.1); rintro e w' ⟨rfl, ⟨nd, rfl⟩⟩) | (go_at_call 14; (with_reducible refine (dropperlaw02_Awake.calls kj40  t126 _ A75.out).mono ?_); rintro e w89 ⟨rfl, hb⟩; have n0_ := Aside0.mk (Kd.R_below (by (with_reducible repeat (first | apply Kd.R_alloc | apply Kd.R_drewN | apply Kd.R_drew)); exact HO120.out) hb); have n1_ := Aside0.mk (Kd.R_below (by (with_reducible repeat (first | apply Kd.R_alloc | apply Kd.R_drewN | apply Kd.R_drew)); exact HO124.out) hb); have n2_ := Aside0.mk (bkB BK101 hb); have n3_ := Aside0.mk (bkB BK102 hb); have n4_ := Aside0.mk (bkB BK106 hb); have n5_ := Aside0.mk (bkB BK110 hb); have n6_ := Aside0.mk (below_step (by repeat (first | (with_reducible first | exact HB.out | apply below_alloc | apply pw_below_drewN | apply below_drew1 | refine below_set ?_ GE101.out | refine below_set ?_ GE102.out | refine below_set ?_ GE106.out | refine below_set ?_ GE110.out) | exact HB.out)) hb); clear HO120; clear HO124; clear BK101; clear BK102; clear BK106; clear BK110; clear HB; have HO120 := n0_; have HO124 := n1_; have BK101 := n2_; have BK102 := n3_; have BK106 := n4_; have BK110 := n5_; have HB := n6_; clear n0_ n1_ n2_ n3_ n4_ n5_ n6_; (try clear hb); (try clear hb2); (try clear hk); (try clear hi)))
          go_ret
          exact ⟨by first | rfl | (simp [errW_none, errW_some] <;> rfl) | (simp [*, errW_none, errW_some] <;> rfl), by repeat (first | (with_reducible first | exact HB.out | apply below_alloc | apply pw_below_drewN | apply below_drew1 | refine below_set ?_ GE101.out | refine below_set ?_ GE102.out | refine below_set ?_ GE106.out | refine below_set ?_ GE110.out) | exact HB.out)⟩
end Go.Proofs.Ytciepmpadcpkbaa.G
