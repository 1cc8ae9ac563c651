/- Functions of the seat and plain laws about them: GF22. -/
import Derived.Test.YtklapbgajghhcaaGBase
import Derived.Test.YtklapbgajghhcaaZW0
section
namespace Go.Proofs.Ytklapbgajghhcaa.G
open Go.RowKit Go.Proofs.YtklapbgajghhcaaW.PrintWords Go.Proofs.YtklapbgajghhcaaW.PrintLast Go.Proofs.YtklapbgajghhcaaW.PrintMore
attribute [local go_sem] max2_int min2_int max_two min_two max_three min_three max_four min_four
set_option linter.unusedVariables false
set_option linter.unusedSimpArgs false
mutual
def wear_blocks.l0 : Nat → List (S50) → List Int → Int → Int → Option ((List (S50)))
  | 0, _, _, _, _ => none
  | k + 1, x3, x8, x9, x10 => if x10 < x9 then (if 0 ≤ x10 then (if x10 < (x8.length : Int) then (wear_blocks.l1 k x3 (wrap64 ((x3.length : Int) - 1)) x8 x9 x10 x10 (rd x8 x10) 1) else (none)) else (none)) else (some x3)
def wear_blocks.l1 : Nat → List (S50) → Int → List Int → Int → Int → Int → Int → Int → Option ((List (S50)))
  | 0, _, _, _, _, _, _, _, _ => none
  | k + 1, x3, x7, x8, x9, x10, x103000, x103001, x103002 => if x7 ≥ 0 then (if 0 ≤ x7 then (if x7 < (x3.length : Int) then ((wear_block_mean.f k ((rd_T50 x3 x7).f0) ((rd_T50 x3 x7).f1) ((rd_T50 x3 x7).f2)).bind fun bt104 => ((wear_block_mean.f k x103000 x103001 x103002).bind fun bt106 => ((wear_less.f bt104.1 bt104.2 bt106.1 bt106.2).bind fun t108 => (if t108 = true then (if x3.length < 5864062014805 then (wear_blocks.l0 k (x3 ++ [(⟨x103000, x103001, x103002⟩ : S50)]) x8 x9 (wrap64 (x10 + 1))) else (none)) else (if x7 ≤ (x3.length : Int) then (wear_blocks.l1 k (x3.take (x7 : Int).toNat) (wrap64 (x7 - 1)) x8 x9 x10 ((rd_T50 x3 x7).f0) (wrap64 (((rd_T50 x3 x7).f1) + x103001)) (wrap64 (((rd_T50 x3 x7).f2) + x103002))) else (none)))))) else (none)) else (none)) else (if x3.length < 5864062014805 then (wear_blocks.l0 k (x3 ++ [(⟨x103000, x103001, x103002⟩ : S50)]) x8 x9 (wrap64 (x10 + 1))) else (none))
end
def wear_blocks.f (k : Nat) (l0 : List Int) : Option ((List (S50))) := wear_blocks.l0 k ([] : List (S50)) l0 (l0.length : Int) 0
theorem wear_blocks.mono_l : ∀ k, (∀ y0 y1 y2 y3, LeO (wear_blocks.l0 k y0 y1 y2 y3) (wear_blocks.l0 (k + 1) y0 y1 y2 y3)) ∧ (∀ y0 y1 y2 y3 y4 y5 y6 y7, LeO (wear_blocks.l1 k y0 y1 y2 y3 y4 y5 y6 y7) (wear_blocks.l1 (k + 1) y0 y1 y2 y3 y4 y5 y6 y7))
  | 0 => ⟨fun _ _ _ _ r h => by simp [wear_blocks.l0] at h, fun _ _ _ _ _ _ _ _ r h => by simp [wear_blocks.l1] at h⟩
  | k + 1 => by
    obtain ⟨ih0, ih1⟩ := wear_blocks.mono_l k
    refine ⟨?_, ?_⟩
    · intro y0 y1 y2 y3
      unfold wear_blocks.l0
      repeat' first
      | (with_reducible exact ih0 _ _ _ _)
      | (with_reducible exact ih1 _ _ _ _ _ _ _ _)
      | (with_reducible exact wear_block_mean.mono _ _ _ _)
      | (with_reducible exact LeO.refl _)
      | (with_reducible exact LeO.none _)
      | (with_reducible refine LeO.ite ?_ ?_)
      | (with_reducible refine LeO.bind ?_ (fun _ => ?_))
      | exact ih0 _ _ _ _
      | exact ih1 _ _ _ _ _ _ _ _
      | exact wear_block_mean.mono _ _ _ _
      | exact LeO.none _
      | refine LeO.ite ?_ ?_
      | refine LeO.bind ?_ (fun _ => ?_)
    · intro y0 y1 y2 y3 y4 y5 y6 y7
      unfold wear_blocks.l1
      repeat' first
      | (with_reducible exact ih0 _ _ _ _)
      | (with_reducible exact ih1 _ _ _ _ _ _ _ _)
      | (with_reducible exact wear_block_mean.mono _ _ _ _)
      | (with_reducible exact LeO.refl _)
      | (with_reducible exact LeO.none _)
      | (with_reducible refine LeO.ite ?_ ?_)
      | (with_reducible refine LeO.bind ?_ (fun _ => ?_))
      | exact ih0 _ _ _ _
      | exact ih1 _ _ _ _ _ _ _ _
      | exact wear_block_mean.mono _ _ _ _
      | exact LeO.none _
      | refine LeO.ite ?_ ?_
      | refine LeO.bind ?_ (fun _ => ?_)
theorem wear_blocks.mono : ∀ a0 k, LeO (wear_blocks.f k a0) (wear_blocks.f (k + 1) a0) := by
  intro a0 k
  obtain ⟨ih0, ih1⟩ := wear_blocks.mono_l k
  unfold wear_blocks.f
  repeat' first
      | (with_reducible exact ih0 _ _ _ _)
      | (with_reducible exact ih1 _ _ _ _ _ _ _ _)
      | (with_reducible exact wear_block_mean.mono _ _ _ _)
      | (with_reducible exact LeO.refl _)
      | (with_reducible exact LeO.none _)
      | (with_reducible refine LeO.ite ?_ ?_)
      | (with_reducible refine LeO.bind ?_ (fun _ => ?_))
      | exact ih0 _ _ _ _
      | exact ih1 _ _ _ _ _ _ _ _
      | exact wear_block_mean.mono _ _ _ _
      | exact LeO.none _
      | refine LeO.ite ?_ ?_
      | refine LeO.bind ?_ (fun _ => ?_)
def wear_blocks.T7 : Bool × List (List Nat × List Nat) := (true, [([], []), ([0], [0]), ([1], [1]), ([2], [2]), ([2], [2]), ([3, 4, 2], [2, 3, 4]), ([5, 2], [2, 5]), ([6, 2, 2], [2, 6]), ([2], [2]), ([8, 7, 2], [2, 8]), ([7, 9, 9, 2], [2, 7, 9]), ([10, 2], [2, 10]), ([2, 11], [2, 11])])
def wear_blocks.B7 : List Nat := [0, 1, 3, 7, 7, 31, 63, 127, 7, 511, 1023, 2047, 4095]
theorem wear_blocks.tab7 : rtab .any (opsOf Try.f22 7) = wear_blocks.T7 := by kernel_rfl
theorem wear_blocks.bits7 : waitsOk wear_blocks.T7.2 wear_blocks.B7 = true := by kernel_rfl
def wear_blocks.T9 : Bool × List (List Nat × List Nat) := (true, [([], []), ([], []), ([0, 1], [0, 1]), ([2], [2]), ([3], [3]), ([], []), ([], []), ([5, 6], [5, 6]), ([7], [7]), ([8], [8]), ([], []), ([10], [10]), ([9, 11], [9, 11]), ([], []), ([], []), ([13, 14], [13, 14]), ([15], [15]), ([16], [16]), ([], []), ([18], [18]), ([17, 19], [17, 19]), ([4, 12, 20], [4, 12, 20]), ([21, 0, 1, 2, 3, 4, 5, 6, 7, 8, 9, 10, 11, 12, 13, 14, 15, 16, 17, 18, 19, 20, 21], [21])])
def wear_blocks.B9 : List Nat := [0, 0, 3, 7, 15, 0, 0, 96, 224, 480, 0, 1024, 4064, 0, 0, 24576, 57344, 122880, 0, 262144, 1040384, 2097151, 4194303]
theorem wear_blocks.tab9 : rtab .any (opsOf Try.f22 9) = wear_blocks.T9 := by kernel_rfl
theorem wear_blocks.bits9 : waitsOk wear_blocks.T9.2 wear_blocks.B9 = true := by kernel_rfl
set_option maxHeartbeats 8000000 in
set_option maxRecDepth 100000 in
theorem wear_blocks.calls (k : Nat) (A0 : Option Addr) (c0 : Nat) (l0 : List Int) (r : List (S50)) (w : World) (hr0 : Kd.C (Kd.int .i64) w A0 l0.length l0) (hc0 : l0.length ≤ c0) (h : wear_blocks.f k l0 = some r) :
    Calls Try.prog 22 #[.slice A0 l0.length c0] w fun e w' => ∃ v0_ : Value, e = .returned (v0_) ∧ Kd.R k50 50 w' w.heap.size (fun _ => True) v0_ r ∧ Below w.heap.size w w' := by
  have hu50 := Try.underlying50
  have HR0 := Aside0.mk hr0
  have HC0 := Aside0.mk hc0
  clear hr0 hc0
  have HB := Aside0.mk (Below.refl w.heap.size w)
  have H : (wear_blocks.l0 k ([] : List (S50)) l0 (l0.length : Int) 0) = some r := h
  clear h
  have H' := Aside0.mk H
  clear H
  go_enter Try.func22, Try.ntmps22
  go_wp2
  go_loopg [3, 10] k (fun kq v3 v10 w' => ∃ (x3_1 : List (S50)) (x10_1 : Int), v10 = .int .i64 x10_1 ∧ Aside0 (wear_blocks.l0 kq x3_1 l0 (l0.length : Int) x10_1 = some r) ∧ Aside0 (kq ≤ k) ∧ Aside0 (Kd.R k50 50 w' w.heap.size (fun _ => True) v3 x3_1) ∧ Aside0 (Below w.heap.size w w'))
  case atStart => exact ⟨(([] : List (S50))), (0), (by first | rfl | (simp; done) | (simp [*]; done)), H', ⟨Nat.le_refl _⟩, ⟨by first | exact Kd.R_nil _ _ _ _ _ | exact Kd.N_nil _ _ _ _ _ | exact Kd.V_nil _ _ _ _ _ | exact Kd.Q_nil _ _ _ _ _ | exact Kd.S_nil _ _ _ _ _⟩, ⟨by repeat (first | (with_reducible first | exact HB.out | apply below_alloc | apply pw_below_drewN | apply below_drew1) | exact HB.out)⟩⟩
  case round =>
    clear H'
    obtain ⟨x3_1, x10_1, rfl, HA, HK1, HO_3, HB⟩ := hrel
    cases gk with
    | zero => exact absurd HA.out (by simp [wear_blocks.l0])
    | succ k1 =>
      have H := HA.out
      clear HA
      simp only [wear_blocks.l0] at H
      by_cases c2 : x10_1 < (l0.length : Int)
      rotate_left
      · rw [if_neg c2] at H
        have c2b0 : decide (x10_1 < (l0.length : Int)) = false := decide_eq_false c2
        clear c2
        obtain rfl := Option.some.inj H
        go_wp2
        go_ret
        exact ⟨_, by first | rfl | (simp [errW_none, errW_some] <;> rfl) | (simp [*, errW_none, errW_some] <;> rfl), by (with_reducible repeat (first | apply Kd.R_alloc | apply Kd.R_drewN | apply Kd.R_drew)); exact HO_3.out, by repeat (first | (with_reducible first | exact HB.out | apply below_alloc | apply pw_below_drewN | apply below_drew1) | exact HB.out)⟩
      rw [if_pos c2] at H
      have c2b0 : decide (x10_1 < (l0.length : Int)) = true := decide_eq_true c2
      clear c2
      by_cases c3 : 0 ≤ x10_1
      rotate_left
      · rw [if_neg c3] at H
        exact absurd H (by simp)
      rw [if_pos c3] at H
      have c3b0 : decide (0 ≤ x10_1) = true := decide_eq_true c3
      clear c3
      by_cases c4 : x10_1 < (l0.length : Int)
      rotate_left
      · rw [if_neg c4] at H
        exact absurd H (by simp)
      rw [if_pos c4] at H
      have c4b0 : decide (x10_1 < (l0.length : Int)) = true := decide_eq_true c4
      clear c4
      have H' := Aside0.mk H
      clear H
      have p101 : 0 ≤ (x10_1 : Int) := of_decide_eq_true (by first | (with_reducible assumption) | assumption)
      have q101 : x10_1 < (l0.length : Int) := of_decide_eq_true (by first | (with_reducible assumption) | assumption)
      obtain ⟨ad101, e101, hx101_0⟩ := Kd.at_int HR0.out x10_1 p101 q101
      cases e101
      replace hx101_0 := (HB.out.cell (World.block_lt_of_cell? w _ hx101_0)).trans hx101_0
      replace p101 := eq_true p101
      replace q101 := eq_true q101
      go_wp2_with (first | ((with_reducible refine gate_dst (N := 6) rfl ?_); refine box_event ?hg (N := 6) ?hd (cs := #[.int .i64 0, .int .i64 0, .int .i64 0]) (t := 50) ?hr ?_; (case hd => rfl); (case hg => rfl); (case hr => first | (go_simp; done) | (go_simp; rfl)); intro gb102 hg w5 hbox hb; have n0_ := Aside0.mk (Kd.R_below (Kd.R_elderB (by (with_reducible repeat (first | apply Kd.R_alloc | apply Kd.R_drewN | apply Kd.R_drew)); exact HO_3.out) gb102 (Nat.le_of_eq hg.symm)) hb); have n1_ := Aside0.mk (below_step (by repeat (first | (with_reducible first | exact HB.out | apply below_alloc | apply pw_below_drewN | apply below_drew1) | exact HB.out)) hb); have n2_ := Aside0.mk (hbox); have n3_ := Aside0.mk ((by rw [hg]; exact (below_size (by repeat (first | (with_reducible first | exact HB.out | apply below_alloc | apply pw_below_drewN | apply below_drew1) | exact HB.out))) : w.heap.size ≤ gb102)); have n4_ := Aside0.mk ((by rw [hg]; exact (below_size (by repeat (first | (with_reducible first | exact HB.out | apply below_alloc | apply pw_below_drewN | apply below_drew1) | exact HB.out))) : w.heap.size ≤ gb102)); clear HO_3; clear HB; have HO_3 := n0_; have HB := n1_; have BK102 := n2_; have GW102 := n3_; have GE102 := n4_; clear n0_ n1_ n2_ n3_ n4_; clear hb hbox hg; have hcz6_0 : w5.cell? ⟨gb102, 0, none⟩ = some (.int .i64 0) := (blk_cell BK102.out 0).trans rfl; have hcz6_1 : w5.cell? ⟨gb102, 1, none⟩ = some (.int .i64 0) := (blk_cell BK102.out 1).trans rfl; have hcz6_2 : w5.cell? ⟨gb102, 2, none⟩ = some (.int .i64 0) := (blk_cell BK102.out 2).trans rfl; have hfz6_0 := blk_frozen BK102.out 0; have hfz6_1 := blk_frozen BK102.out 1; have hfz6_2 := blk_frozen BK102.out 2; obtain ⟨Ao7, co7, eo7⟩ := Kd.R_slice HO_3.out; subst eo7))
      go_loopg [3, 7] k1 (fun kq v3 v7 w' => ∃ (x3_2 : List (S50)) (x7_2 : Int) (x103000_2 : Int) (x103001_2 : Int) (x103002_2 : Int), v7 = .int .i64 x7_2 ∧ Aside0 (wear_blocks.l1 kq x3_2 x7_2 l0 (l0.length : Int) x10_1 x103000_2 x103001_2 x103002_2 = some r) ∧ Aside0 (kq ≤ k1) ∧ Aside0 (Kd.R k50 50 w' w.heap.size (fun k_ => k_ ≠ gb102) v3 x3_2) ∧ Aside0 (w'.heap[gb102]? = some (.cells #[.int .i64 x103000_2, .int .i64 x103001_2, .int .i64 x103002_2] 50 (0, 0))) ∧ Aside0 (Below w.heap.size w w'))
      case atStart => exact ⟨(x3_1), (wrap64 ((x3_1.length : Int) - 1)), (x10_1), (rd l0 x10_1), (1), (by first | rfl | (simp; done) | (simp [*]; done)), H', ⟨Nat.le_refl _⟩, ⟨by (with_reducible repeat (first | apply Kd.R_alloc | apply Kd.R_drewN | apply Kd.R_drew)); exact Kd.R_mono (Kd.R_far (p := ⟨gb102, 2, none⟩) (Kd.R_far (p := ⟨gb102, 1, none⟩) (Kd.R_far (p := ⟨gb102, 0, none⟩) (Kd.R_mono HO_3.out (fun k_ hk => (⟨hk, hk.2⟩ : _ ∧ k_ ≠ gb102))) (fun _ hk => hk.2) (.int .i64 x10_1)) (fun _ hk => hk.2) (.int .i64 (rd l0 x10_1))) (fun _ hk => hk.2) (.int .i64 1)) (fun _ hk => hk.1.2)⟩, ⟨by (with_reducible repeat (first | refine blk_drewN ?_ _ | refine blk_drew ?_ | refine blk_alloc ?_ _)); refine blk_put (cs := #[.int .i64 x10_1, .int .i64 (rd l0 x10_1), .int .i64 0]) ?_ 2 _ rfl; (with_reducible repeat (first | refine blk_drewN ?_ _ | refine blk_drew ?_ | refine blk_alloc ?_ _)); refine blk_put (cs := #[.int .i64 x10_1, .int .i64 0, .int .i64 0]) ?_ 1 _ rfl; (with_reducible repeat (first | refine blk_drewN ?_ _ | refine blk_drew ?_ | refine blk_alloc ?_ _)); refine blk_put (cs := #[.int .i64 0, .int .i64 0, .int .i64 0]) ?_ 0 _ rfl; (with_reducible repeat (first | refine blk_drewN ?_ _ | refine blk_drew ?_ | refine blk_alloc ?_ _)); exact BK102.out⟩, ⟨by repeat (first | (with_reducible first | exact HB.out | apply below_alloc | apply pw_below_drewN | apply below_drew1 | refine below_set ?_ GE102.out) | exact HB.out)⟩⟩
      case round =>
        clear H'
        try clear p1
        try clear q1
        try clear hx1
        try clear c2
        try clear c2b0
        try clear p2
        try clear c3
        try clear c3b0
        try clear c4
        try clear c4b0
        try clear p6
        try clear hcz6_0
        try clear hcz6_1
        try clear hcz6_2
        try clear hfz6_0
        try clear hfz6_1
        try clear hfz6_2
        try clear hx101_0
        try clear p101
        try clear q101
        obtain ⟨x3_2, x7_2, x103000_2, x103001_2, x103002_2, rfl, HA, HK2, HO_3, BK102, HB⟩ := hrel
        cases gk with
        | zero => exact absurd HA.out (by simp [wear_blocks.l1])
        | succ k2 =>
          have H := HA.out
          clear HA
          simp only [wear_blocks.l1] at H
          by_cases c8 : x7_2 ≥ 0
          rotate_left
          · rw [if_neg c8] at H
            have c8b0 : decide (0 ≤ x7_2) = false := decide_eq_false c8
            clear c8
            by_cases c35 : x3_2.length < 5864062014805
            rotate_left
            · rw [if_neg c35] at H
              exact absurd H (by simp)
            rw [if_pos c35] at H
            have LMc35 := Aside0.mk c35
            clear c35
            obtain ⟨y118, hy118⟩ : ∃ y_ : List (S50), y_ = (x3_2 ++ [(⟨x103000_2, x103001_2, x103002_2⟩ : S50)]) := ⟨_, rfl⟩
            replace H : (wear_blocks.l0 k2 y118 l0 (l0.length : Int) (wrap64 (x10_1 + 1))) = some r := by first | (rw [hy118]; with_reducible exact H) | (have H2_ := (Option.bind_some _ _).symm.trans H; rw [hy118]; with_reducible exact H2_) | (have H2_ := (Option.bind_some _ _).symm.trans H; with_reducible exact H2_) | with_reducible exact H | (rw [hy118]; exact H) | exact H
            have Ny118 := Aside0.mk hy118
            clear hy118
            have H' := Aside0.mk H
            clear H
            try go_wp2
            have n0_ := Aside0.mk (Kd.R_drew HO_3.out)
            have n1_ := Aside0.mk (blk_drew BK102.out)
            have n2_ := Aside0.mk (below_drew1 HB.out)
            clear HO_3
            clear BK102
            clear HB
            have HO_3 := n0_
            have BK102 := n1_
            have HB := n2_
            clear n0_ n1_ n2_
            refine start_ (n := 13) (S := fun w' => True) (ds := []) (mkB 13 0) (by kernel_rfl) rfl rfl trivial (fun hHeld => ?_); refine with_tabW wear_blocks.tab7 wear_blocks.bits7 (fun HT_ HW_ => ?_)
            generalize wr.drew = w36 at HO_3 BK102 HB hHeld ⊢
            refine pr_ 0 (some 21) (mkB 13 1) HT_ ?_
            refine pr_ 1 (some 22) (mkB 13 3) HT_ ?_
            refine pr_ 2 (some 23) (mkB 13 7) HT_ ?_
            refine pu_ 3 (some 24) (mkB 13 15) HT_ ?_
            refine pu_ 4 (some 25) (mkB 13 31) HT_ ?_
            refine pu_ 5 (some 26) (mkB 13 63) HT_ ?_
            refine pu_ 6 (some 27) (mkB 13 127) HT_ ?_
            refine pu_ 7 (some 28) (mkB 13 255) HT_ ?_
            refine pu_ 8 (some 29) (mkB 13 511) HT_ ?_
            refine pu_ 9 (some 30) (mkB 13 1023) HT_ ?_
            refine pu_ 10 (some 31) (mkB 13 2047) HT_ ?_
            refine pu_ 11 (some 32) (mkB 13 4095) HT_ ?_
            refine pr_ 12 (some 33) (mkB 13 8191) HT_ ?_
            refine done_ (done_of HT_.out (by kernel_rfl)) ?_
            have hcz37_0 : w36.cell? ⟨gb102, 0, none⟩ = some (.int .i64 x103000_2) := (blk_cell BK102.out 0).trans rfl
            have hcz37_1 : w36.cell? ⟨gb102, 1, none⟩ = some (.int .i64 x103001_2) := (blk_cell BK102.out 1).trans rfl
            have hcz37_2 : w36.cell? ⟨gb102, 2, none⟩ = some (.int .i64 x103002_2) := (blk_cell BK102.out 2).trans rfl
            have hfz37_0 := blk_frozen BK102.out 0
            have hfz37_1 := blk_frozen BK102.out 1
            have hfz37_2 := blk_frozen BK102.out 2
            try go_wp2_with (first | ((with_reducible refine gate_builtin (b := .append) (xs := #[.tmp 61, .tmp 63]) rfl ?_); at_builtin; refine Kd.R_append k50 (w0 := w) w.heap.size rfl (.tmp 61) (.tmp 63) 47 50 (.agg #[(.int .i64 0), (.int .i64 0), (.int .i64 0)]) 24 rfl Try.underlying47 info50 rfl (by decide) (by omega) u3 x3_2 (⟨x103000_2, x103001_2, x103002_2⟩ : S50) [.int .i64 x103000_2, .int .i64 x103001_2, .int .i64 x103002_2] (fun k_ => k_ ≠ gb102) (fun _ => False) rfl rfl ?aP (fun _ hk => hk.elim) ?aF ?aO ?aB ?aS ?aL ?_; (case aP => exact k50_mkM _ _ _ (⟨x103000_2, x103001_2, x103002_2⟩ : S50)); (case aB => exact (by repeat (first | (with_reducible first | exact HB.out | apply below_alloc | apply pw_below_drewN | apply below_drew1 | refine below_set ?_ GE102.out) | exact HB.out))); (case aF => exact (fun k_ hk => Kd.freshB (g := gb102) (o := .cells #[.int .i64 x103000_2, .int .i64 x103001_2, .int .i64 x103002_2] 50 (0, 0)) (bkU BK102) k_ hk)); (case aO => exact (by (with_reducible repeat (first | apply Kd.R_alloc | apply Kd.R_drewN | apply Kd.R_drew)); exact HO_3.out)); (case aS => exact (below_size (by repeat (first | (with_reducible first | exact HB.out | apply below_alloc | apply pw_below_drewN | apply below_drew1 | refine below_set ?_ GE102.out) | exact HB.out)))); (case aL => have := LMc35.out; omega); intro v119 w38 ho hb hg hat; rw [← Ny118.out] at ho; have n0_ := Aside0.mk (blk_grown (g := gb102) (o := .cells #[.int .i64 x103000_2, .int .i64 x103001_2, .int .i64 x103002_2] 50 (0, 0)) (bkU BK102) hg (Kd.R_away HO_3.out (fun _ hk => hk))); have n1_ := Aside0.mk (hb); have n2_ := Aside0.mk (ho); clear BK102; clear HB; clear HO_3; have BK102 := n0_; have HB := n1_; have HO120 := n2_; clear n0_ n1_ n2_; clear ho hb hg hat))
            go_roundg k2
            case measure => have := HK1.out; have := HK2.out; omega
            case rel => exact ⟨(y118), (wrap64 (x10_1 + 1)), (by first | rfl | (simp; done) | (simp [*]; done)), H', ⟨by have := HK1.out; have := HK2.out; omega⟩, ⟨by (with_reducible repeat (first | apply Kd.R_alloc | apply Kd.R_drewN | apply Kd.R_drew)); exact Kd.R_mono HO120.out (fun _ hk => trivial)⟩, ⟨by repeat (first | (with_reducible first | exact HB.out | apply below_alloc | apply pw_below_drewN | apply below_drew1 | refine below_set ?_ GE102.out) | exact HB.out)⟩⟩
          rw [if_pos c8] at H
          have c8b0 : decide (0 ≤ x7_2) = true := decide_eq_true c8
          clear c8
          by_cases c9 : 0 ≤ x7_2
          rotate_left
          · rw [if_neg c9] at H
            exact absurd H (by simp)
          rw [if_pos c9] at H
          have c9b0 : decide (0 ≤ x7_2) = true := decide_eq_true c9
          clear c9
          by_cases c10 : x7_2 < (x3_2.length : Int)
          rotate_left
          · rw [if_neg c10] at H
            exact absurd H (by simp)
          rw [if_pos c10] at H
          have c10b0 : decide (x7_2 < (x3_2.length : Int)) = true := decide_eq_true c10
          clear c10
          replace H := Option.bind_eq_some_iff.mp H
          obtain ⟨⟨t104, t105⟩, A110, H⟩ := H
          replace H : ((wear_block_mean.f k2 x103000_2 x103001_2 x103002_2).bind fun bt106 => ((wear_less.f t104 t105 bt106.1 bt106.2).bind fun t108 => (if t108 = true then (if x3_2.length < 5864062014805 then (wear_blocks.l0 k2 (x3_2 ++ [(⟨x103000_2, x103001_2, x103002_2⟩ : S50)]) l0 (l0.length : Int) (wrap64 (x10_1 + 1))) else (none)) else (if x7_2 ≤ (x3_2.length : Int) then (wear_blocks.l1 k2 (x3_2.take (x7_2 : Int).toNat) (wrap64 (x7_2 - 1)) l0 (l0.length : Int) x10_1 ((rd_T50 x3_2 x7_2).f0) (wrap64 (((rd_T50 x3_2 x7_2).f1) + x103001_2)) (wrap64 (((rd_T50 x3_2 x7_2).f2) + x103002_2))) else (none))))) = some r := H
          have A11 := Aside0.mk A110
          clear A110
          replace H := Option.bind_eq_some_iff.mp H
          obtain ⟨⟨t106, t107⟩, A120, H⟩ := H
          replace H : ((wear_less.f t104 t105 t106 t107).bind fun t108 => (if t108 = true then (if x3_2.length < 5864062014805 then (wear_blocks.l0 k2 (x3_2 ++ [(⟨x103000_2, x103001_2, x103002_2⟩ : S50)]) l0 (l0.length : Int) (wrap64 (x10_1 + 1))) else (none)) else (if x7_2 ≤ (x3_2.length : Int) then (wear_blocks.l1 k2 (x3_2.take (x7_2 : Int).toNat) (wrap64 (x7_2 - 1)) l0 (l0.length : Int) x10_1 ((rd_T50 x3_2 x7_2).f0) (wrap64 (((rd_T50 x3_2 x7_2).f1) + x103001_2)) (wrap64 (((rd_T50 x3_2 x7_2).f2) + x103002_2))) else (none)))) = some r := H
          have A12 := Aside0.mk A120
          clear A120
          replace H := Option.bind_eq_some_iff.mp H
          obtain ⟨t108, A130, H⟩ := H
          replace H : (if t108 = true then (if x3_2.length < 5864062014805 then (wear_blocks.l0 k2 (x3_2 ++ [(⟨x103000_2, x103001_2, x103002_2⟩ : S50)]) l0 (l0.length : Int) (wrap64 (x10_1 + 1))) else (none)) else (if x7_2 ≤ (x3_2.length : Int) then (wear_blocks.l1 k2 (x3_2.take (x7_2 : Int).toNat) (wrap64 (x7_2 - 1)) l0 (l0.length : Int) x10_1 ((rd_T50 x3_2 x7_2).f0) (wrap64 (((rd_T50 x3_2 x7_2).f1) + x103001_2)) (wrap64 (((rd_T50 x3_2 x7_2).f2) + x103002_2))) else (none))) = some r := H
          have A13 := Aside0.mk A130
          clear A130
          by_cases c14 : t108 = true
          · subst c14
            have H1 : (if x3_2.length < 5864062014805 then (wear_blocks.l0 k2 (x3_2 ++ [(⟨x103000_2, x103001_2, x103002_2⟩ : S50)]) l0 (l0.length : Int) (wrap64 (x10_1 + 1))) else (none)) = some r := by rw [if_pos rfl] at H; exact H
            clear H
            have H := H1
            clear H1
            by_cases c15 : x3_2.length < 5864062014805
            rotate_left
            · rw [if_neg c15] at H
              exact absurd H (by simp)
            rw [if_pos c15] at H
            have LMc15 := Aside0.mk c15
            clear c15
            obtain ⟨y109, hy109⟩ : ∃ y_ : List (S50), y_ = (x3_2 ++ [(⟨x103000_2, x103001_2, x103002_2⟩ : S50)]) := ⟨_, rfl⟩
            replace H : (wear_blocks.l0 k2 y109 l0 (l0.length : Int) (wrap64 (x10_1 + 1))) = some r := by first | (rw [hy109]; with_reducible exact H) | (have H2_ := (Option.bind_some _ _).symm.trans H; rw [hy109]; with_reducible exact H2_) | (have H2_ := (Option.bind_some _ _).symm.trans H; with_reducible exact H2_) | with_reducible exact H | (rw [hy109]; exact H) | exact H
            have Ny109 := Aside0.mk hy109
            clear hy109
            have H' := Aside0.mk H
            clear H
            try go_wp2
            have n0_ := Aside0.mk (Kd.R_drew HO_3.out)
            have n1_ := Aside0.mk (blk_drew BK102.out)
            have n2_ := Aside0.mk (below_drew1 HB.out)
            clear HO_3
            clear BK102
            clear HB
            have HO_3 := n0_
            have BK102 := n1_
            have HB := n2_
            clear n0_ n1_ n2_
            obtain ⟨Ao17, co17, eo17⟩ := Kd.R_slice HO_3.out
            (first | subst eo17 | (injection eo17 with f1_ f2_ f3_; have f4_ := f1_.symm; have f5_ := f3_.symm; clear f1_ f2_ f3_; subst f4_; subst f5_))
            have p103 : 0 ≤ (x7_2 : Int) := of_decide_eq_true (by first | (with_reducible assumption) | assumption)
            have q103 : x7_2 < (x3_2.length : Int) := of_decide_eq_true (by first | (with_reducible assumption) | assumption)
            obtain ⟨ad103, e103, hx103_0, hx103_1, hx103_2⟩ := at_T50 (Kd.R_reads' HO_3.out).2.2 x7_2 p103 q103
            cases e103
            replace p103 := eq_true p103
            replace q103 := eq_true q103
            refine start_ (n := 13) (S := fun w' => w'.cell? ⟨gb102, 0, none⟩ = some (.int .i64 x103000_2) ∧ w'.cell? ⟨gb102, 1, none⟩ = some (.int .i64 x103001_2) ∧ w'.cell? ⟨gb102, 2, none⟩ = some (.int .i64 x103002_2) ∧ w'.cell? (ad103.add ((x7_2).toNat * 3)) = some (.int .i64 ((rd_T50 x3_2 x7_2).f0)) ∧ w'.cell? ⟨(ad103.add ((x7_2).toNat * 3)).block, (ad103.add ((x7_2).toNat * 3)).off + 1, none⟩ = some (.int .i64 ((rd_T50 x3_2 x7_2).f1)) ∧ w'.cell? ⟨(ad103.add ((x7_2).toNat * 3)).block, (ad103.add ((x7_2).toNat * 3)).off + 2, none⟩ = some (.int .i64 ((rd_T50 x3_2 x7_2).f2))) (ds := []) (mkB 13 0) (by kernel_rfl) rfl rfl ⟨(blk_cell BK102.out 0).trans rfl, (blk_cell BK102.out 1).trans rfl, (blk_cell BK102.out 2).trans rfl, hx103_0, hx103_1, hx103_2⟩ (fun hHeld => ?_); refine with_tabW wear_blocks.tab7 wear_blocks.bits7 (fun HT_ HW_ => ?_)
            generalize wr.drew = w16 at HO_3 BK102 HB hx103_0 hx103_1 hx103_2 hHeld ⊢
            refine pr_ 0 (some 21) (mkB 13 1) HT_ ?_
            refine pr_ 1 (some 22) (mkB 13 3) HT_ ?_
            refine pr_ 2 (some 23) (mkB 13 7) HT_ ?_
            refine pr_ 3 (some 24) (mkB 13 15) HT_ ?_
            refine pr_ 4 (some 25) (mkB 13 31) HT_ ?_
            refine pr_ 5 (some 26) (mkB 13 63) HT_ ?_
            refine take_ (i := 6) (N := some 27) (v := ?_) (a' := ?_) (mkB 13 127) rfl rfl (take_ofW HT_.out HW_.out (by kernel_rfl)) (fun _ _ _ h => h) (Or.inl ⟨by rfl, ?_⟩) hHeld ?_ ?_
            rotate_left
            · rintro w' ⟨s0, s1, s2, s3, s4, s5⟩
              go_simp
              with_reducible rfl
            rotate_left
            · simp only [Act.put, List.setIfInBounds_toArray, List.set_cons_zero, List.set_cons_succ, i64_w, i32_w]
              rfl
            refine take_ (i := 8) (N := some 29) (v := ?_) (a' := ?_) (mkB 13 383) rfl rfl (take_ofW HT_.out HW_.out (by kernel_rfl)) (fun _ _ _ h => h) (Or.inl ⟨by rfl, ?_⟩) hHeld ?_ ?_
            rotate_left
            · rintro w' ⟨s0, s1, s2, s3, s4, s5⟩
              go_simp
              with_reducible rfl
            rotate_left
            · simp only [Act.put, List.setIfInBounds_toArray, List.set_cons_zero, List.set_cons_succ, i64_w, i32_w]
              rfl
            refine one_ (i := 7) (N := some 28) (mkB 13 511) rfl rfl (one_of HT_.out (by kernel_rfl)) (by decide) (fun K hK => ?_)
            refine goes_ Try.func38 (by kernel_rfl) rfl #[.agg #[.int .i64 ((rd_T50 x3_2 x7_2).f0), .int .i64 ((rd_T50 x3_2 x7_2).f1), .int .i64 ((rd_T50 x3_2 x7_2).f2)]] (by rfl) rfl rfl (by (try simp only [List.map_toArray, List.map_cons, List.map_nil]); first | done | rfl | (simp only [List.length_drop, List.length_take]; rfl)) ?_
            with_reducible refine (wear_block_mean.calls k2 ((rd_T50 x3_2 x7_2).f0) ((rd_T50 x3_2 x7_2).f1) ((rd_T50 x3_2 x7_2).f2) t104 t105 _ A11.out).mono ?_
            rintro e w18 ⟨rfl, hb⟩
            have HS3_ := (hb.cell (World.block_lt_of_cell? _ _ (hHeld.2.2.2.1))).trans (hHeld.2.2.2.1)
            have HS4_ := (hb.cell (World.block_lt_of_cell? _ _ (hHeld.2.2.2.2.1))).trans (hHeld.2.2.2.2.1)
            have HS5_ := (hb.cell (World.block_lt_of_cell? _ _ (hHeld.2.2.2.2.2))).trans (hHeld.2.2.2.2.2)
            refine ⟨_, rfl, ?_⟩
            have n0_ := Aside0.mk (Kd.R_below (by (with_reducible repeat (first | apply Kd.R_alloc | apply Kd.R_drewN | apply Kd.R_drew)); exact HO_3.out) hb)
            have n1_ := Aside0.mk (bkB BK102 hb)
            have n2_ := Aside0.mk (below_step (by repeat (first | (with_reducible first | exact HB.out | apply below_alloc | apply pw_below_drewN | apply below_drew1 | refine below_set ?_ GE102.out) | exact HB.out)) hb)
            clear HO_3
            clear BK102
            clear HB
            have HO_3 := n0_
            have BK102 := n1_
            have HB := n2_
            clear n0_ n1_ n2_
            (try clear hb)
            (try clear hb2)
            (try clear hk)
            (try clear hi)
            refine hK.out _ _ ⟨(blk_cell BK102.out 0).trans rfl, (blk_cell BK102.out 1).trans rfl, (blk_cell BK102.out 2).trans rfl, HS3_, HS4_, HS5_⟩ (fun hHeld => ?_)
            clear hK K
            refine norm_ (a' := ?_) ?_ ?_
            rotate_left
            · show Act.put _ (some 28) _ = _
              simp only [Act.put, List.setIfInBounds_toArray, List.set_cons_zero, List.set_cons_succ, i64_w, i32_w]
              rfl
            refine one_ (i := 9) (N := some 30) (mkB 13 1023) rfl rfl (one_of HT_.out (by kernel_rfl)) (by decide) (fun K hK => ?_)
            refine goes_ Try.func38 (by kernel_rfl) rfl #[.agg #[.int .i64 x103000_2, .int .i64 x103001_2, .int .i64 x103002_2]] (by rfl) rfl rfl (by (try simp only [List.map_toArray, List.map_cons, List.map_nil]); first | done | rfl | (simp only [List.length_drop, List.length_take]; rfl)) ?_
            with_reducible refine (wear_block_mean.calls k2 x103000_2 x103001_2 x103002_2 t106 t107 _ A12.out).mono ?_
            rintro e w19 ⟨rfl, hb⟩
            have HS3_ := (hb.cell (World.block_lt_of_cell? _ _ (hHeld.2.2.2.1))).trans (hHeld.2.2.2.1)
            have HS4_ := (hb.cell (World.block_lt_of_cell? _ _ (hHeld.2.2.2.2.1))).trans (hHeld.2.2.2.2.1)
            have HS5_ := (hb.cell (World.block_lt_of_cell? _ _ (hHeld.2.2.2.2.2))).trans (hHeld.2.2.2.2.2)
            refine ⟨_, rfl, ?_⟩
            have n0_ := Aside0.mk (Kd.R_below (by (with_reducible repeat (first | apply Kd.R_alloc | apply Kd.R_drewN | apply Kd.R_drew)); exact HO_3.out) hb)
            have n1_ := Aside0.mk (bkB BK102 hb)
            have n2_ := Aside0.mk (below_step (by repeat (first | (with_reducible first | exact HB.out | apply below_alloc | apply pw_below_drewN | apply below_drew1 | refine below_set ?_ GE102.out) | exact HB.out)) hb)
            clear HO_3
            clear BK102
            clear HB
            have HO_3 := n0_
            have BK102 := n1_
            have HB := n2_
            clear n0_ n1_ n2_
            (try clear hb)
            (try clear hb2)
            (try clear hk)
            (try clear hi)
            refine hK.out _ _ ⟨(blk_cell BK102.out 0).trans rfl, (blk_cell BK102.out 1).trans rfl, (blk_cell BK102.out 2).trans rfl, HS3_, HS4_, HS5_⟩ (fun hHeld => ?_)
            clear hK K
            refine norm_ (a' := ?_) ?_ ?_
            rotate_left
            · show Act.put _ (some 30) _ = _
              simp only [Act.put, List.setIfInBounds_toArray, List.set_cons_zero, List.set_cons_succ, i64_w, i32_w]
              rfl
            refine one_ (i := 10) (N := some 31) (mkB 13 2047) rfl rfl (one_of HT_.out (by kernel_rfl)) (by decide) (fun K hK => ?_)
            refine goes_ Try.func28 (by kernel_rfl) rfl #[.agg #[.int .i64 t104, .int .i64 t105], .agg #[.int .i64 t106, .int .i64 t107]] (by rfl) rfl rfl (by (try simp only [List.map_toArray, List.map_cons, List.map_nil]); first | done | rfl | (simp only [List.length_drop, List.length_take]; rfl)) ?_
            with_reducible refine (wear_less.calls t104 t105 t106 t107 true _ A13.out).mono ?_
            rintro e w20 ⟨rfl, hb⟩
            have HS3_ := (hb.cell (World.block_lt_of_cell? _ _ (hHeld.2.2.2.1))).trans (hHeld.2.2.2.1)
            have HS4_ := (hb.cell (World.block_lt_of_cell? _ _ (hHeld.2.2.2.2.1))).trans (hHeld.2.2.2.2.1)
            have HS5_ := (hb.cell (World.block_lt_of_cell? _ _ (hHeld.2.2.2.2.2))).trans (hHeld.2.2.2.2.2)
            refine ⟨_, rfl, ?_⟩
            have n0_ := Aside0.mk (Kd.R_below (by (with_reducible repeat (first | apply Kd.R_alloc | apply Kd.R_drewN | apply Kd.R_drew)); exact HO_3.out) hb)
            have n1_ := Aside0.mk (bkB BK102 hb)
            have n2_ := Aside0.mk (below_step (by repeat (first | (with_reducible first | exact HB.out | apply below_alloc | apply pw_below_drewN | apply below_drew1 | refine below_set ?_ GE102.out) | exact HB.out)) hb)
            clear HO_3
            clear BK102
            clear HB
            have HO_3 := n0_
            have BK102 := n1_
            have HB := n2_
            clear n0_ n1_ n2_
            (try clear hb)
            (try clear hb2)
            (try clear hk)
            (try clear hi)
            refine hK.out _ _ ⟨(blk_cell BK102.out 0).trans rfl, (blk_cell BK102.out 1).trans rfl, (blk_cell BK102.out 2).trans rfl, HS3_, HS4_, HS5_⟩ (fun hHeld => ?_)
            clear hK K
            refine norm_ (a' := ?_) ?_ ?_
            rotate_left
            · show Act.put _ (some 31) _ = _
              simp only [Act.put, List.setIfInBounds_toArray, List.set_cons_zero, List.set_cons_succ, i64_w, i32_w]
              rfl
            refine pr_ 11 (some 32) (mkB 13 4095) HT_ ?_
            refine pr_ 12 (some 33) (mkB 13 8191) HT_ ?_
            refine done_ (done_of HT_.out (by kernel_rfl)) ?_
            have hcz21_0 : w20.cell? ⟨gb102, 0, none⟩ = some (.int .i64 x103000_2) := (blk_cell BK102.out 0).trans rfl
            have hcz21_1 : w20.cell? ⟨gb102, 1, none⟩ = some (.int .i64 x103001_2) := (blk_cell BK102.out 1).trans rfl
            have hcz21_2 : w20.cell? ⟨gb102, 2, none⟩ = some (.int .i64 x103002_2) := (blk_cell BK102.out 2).trans rfl
            have hfz21_0 := blk_frozen BK102.out 0
            have hfz21_1 := blk_frozen BK102.out 1
            have hfz21_2 := blk_frozen BK102.out 2
            try go_wp2_with (first | ((with_reducible refine gate_builtin (b := .append) (xs := #[.tmp 61, .tmp 63]) rfl ?_); at_builtin; refine Kd.R_append k50 (w0 := w) w.heap.size rfl (.tmp 61) (.tmp 63) 47 50 (.agg #[(.int .i64 0), (.int .i64 0), (.int .i64 0)]) 24 rfl Try.underlying47 info50 rfl (by decide) (by omega) (.slice (some ad103) x3_2.length co17) x3_2 (⟨x103000_2, x103001_2, x103002_2⟩ : S50) [.int .i64 x103000_2, .int .i64 x103001_2, .int .i64 x103002_2] (fun k_ => k_ ≠ gb102) (fun _ => False) rfl rfl ?aP (fun _ hk => hk.elim) ?aF ?aO ?aB ?aS ?aL ?_; (case aP => exact k50_mkM _ _ _ (⟨x103000_2, x103001_2, x103002_2⟩ : S50)); (case aB => exact (by repeat (first | (with_reducible first | exact HB.out | apply below_alloc | apply pw_below_drewN | apply below_drew1 | refine below_set ?_ GE102.out) | exact HB.out))); (case aF => exact (fun k_ hk => Kd.freshB (g := gb102) (o := .cells #[.int .i64 x103000_2, .int .i64 x103001_2, .int .i64 x103002_2] 50 (0, 0)) (bkU BK102) k_ hk)); (case aO => exact (by (with_reducible repeat (first | apply Kd.R_alloc | apply Kd.R_drewN | apply Kd.R_drew)); exact HO_3.out)); (case aS => exact (below_size (by repeat (first | (with_reducible first | exact HB.out | apply below_alloc | apply pw_below_drewN | apply below_drew1 | refine below_set ?_ GE102.out) | exact HB.out)))); (case aL => have := LMc15.out; omega); intro v110 w22 ho hb hg hat; rw [← Ny109.out] at ho; have n0_ := Aside0.mk (blk_grown (g := gb102) (o := .cells #[.int .i64 x103000_2, .int .i64 x103001_2, .int .i64 x103002_2] 50 (0, 0)) (bkU BK102) hg (Kd.R_away HO_3.out (fun _ hk => hk))); have n1_ := Aside0.mk (hb); have n2_ := Aside0.mk (ho); clear BK102; clear HB; clear HO_3; have BK102 := n0_; have HB := n1_; have HO111 := n2_; clear n0_ n1_ n2_; clear ho hb hg hat))
            go_roundg k2
            case measure => have := HK1.out; have := HK2.out; omega
            case rel => exact ⟨(y109), (wrap64 (x10_1 + 1)), (by first | rfl | (simp; done) | (simp [*]; done)), H', ⟨by have := HK1.out; have := HK2.out; omega⟩, ⟨by (with_reducible repeat (first | apply Kd.R_alloc | apply Kd.R_drewN | apply Kd.R_drew)); exact Kd.R_mono HO111.out (fun _ hk => trivial)⟩, ⟨by repeat (first | (with_reducible first | exact HB.out | apply below_alloc | apply pw_below_drewN | apply below_drew1 | refine below_set ?_ GE102.out) | exact HB.out)⟩⟩
          replace c14 := Bool.eq_false_iff.mpr c14
          subst c14
          have H1 : (if x7_2 ≤ (x3_2.length : Int) then (wear_blocks.l1 k2 (x3_2.take (x7_2 : Int).toNat) (wrap64 (x7_2 - 1)) l0 (l0.length : Int) x10_1 ((rd_T50 x3_2 x7_2).f0) (wrap64 (((rd_T50 x3_2 x7_2).f1) + x103001_2)) (wrap64 (((rd_T50 x3_2 x7_2).f2) + x103002_2))) else (none)) = some r := by rw [if_neg (show ¬ (false = true) by decide)] at H; exact H
          clear H
          have H := H1
          clear H1
          by_cases c23 : x7_2 ≤ (x3_2.length : Int)
          rotate_left
          · rw [if_neg c23] at H
            exact absurd H (by simp)
          rw [if_pos c23] at H
          have c23b0 := eq_true c23
          have c23b1 : decide (x7_2 ≤ (x3_2.length : Int)) = true := decide_eq_true c23
          clear c23
          obtain ⟨y115, hy115⟩ : ∃ y_ : List (S50), y_ = (x3_2.take (x7_2 : Int).toNat) := ⟨_, rfl⟩
          replace H : (wear_blocks.l1 k2 y115 (wrap64 (x7_2 - 1)) l0 (l0.length : Int) x10_1 ((rd_T50 x3_2 x7_2).f0) (wrap64 (((rd_T50 x3_2 x7_2).f1) + x103001_2)) (wrap64 (((rd_T50 x3_2 x7_2).f2) + x103002_2))) = some r := by first | (rw [hy115]; with_reducible exact H) | (have H2_ := (Option.bind_some _ _).symm.trans H; rw [hy115]; with_reducible exact H2_) | (have H2_ := (Option.bind_some _ _).symm.trans H; with_reducible exact H2_) | with_reducible exact H | (rw [hy115]; exact H) | exact H
          have Ny115 := Aside0.mk hy115
          clear hy115
          have H' := Aside0.mk H
          clear H
          try go_wp2
          have n0_ := Aside0.mk (Kd.R_drew HO_3.out)
          have n1_ := Aside0.mk (blk_drew BK102.out)
          have n2_ := Aside0.mk (below_drew1 HB.out)
          clear HO_3
          clear BK102
          clear HB
          have HO_3 := n0_
          have BK102 := n1_
          have HB := n2_
          clear n0_ n1_ n2_
          obtain ⟨Ao25, co25, eo25⟩ := Kd.R_slice HO_3.out
          (first | subst eo25 | (injection eo25 with f1_ f2_ f3_; have f4_ := f1_.symm; have f5_ := f3_.symm; clear f1_ f2_ f3_; subst f4_; subst f5_))
          have p103 : 0 ≤ (x7_2 : Int) := of_decide_eq_true (by first | (with_reducible assumption) | assumption)
          have q103 : x7_2 < (x3_2.length : Int) := of_decide_eq_true (by first | (with_reducible assumption) | assumption)
          obtain ⟨ad103, e103, hx103_0, hx103_1, hx103_2⟩ := at_T50 (Kd.R_reads' HO_3.out).2.2 x7_2 p103 q103
          cases e103
          replace p103 := eq_true p103
          replace q103 := eq_true q103
          refine start_ (n := 13) (S := fun w' => w'.cell? ⟨gb102, 0, none⟩ = some (.int .i64 x103000_2) ∧ w'.cell? ⟨gb102, 1, none⟩ = some (.int .i64 x103001_2) ∧ w'.cell? ⟨gb102, 2, none⟩ = some (.int .i64 x103002_2) ∧ w'.cell? (ad103.add ((x7_2).toNat * 3)) = some (.int .i64 ((rd_T50 x3_2 x7_2).f0)) ∧ w'.cell? ⟨(ad103.add ((x7_2).toNat * 3)).block, (ad103.add ((x7_2).toNat * 3)).off + 1, none⟩ = some (.int .i64 ((rd_T50 x3_2 x7_2).f1)) ∧ w'.cell? ⟨(ad103.add ((x7_2).toNat * 3)).block, (ad103.add ((x7_2).toNat * 3)).off + 2, none⟩ = some (.int .i64 ((rd_T50 x3_2 x7_2).f2))) (ds := []) (mkB 13 0) (by kernel_rfl) rfl rfl ⟨(blk_cell BK102.out 0).trans rfl, (blk_cell BK102.out 1).trans rfl, (blk_cell BK102.out 2).trans rfl, hx103_0, hx103_1, hx103_2⟩ (fun hHeld => ?_); refine with_tabW wear_blocks.tab7 wear_blocks.bits7 (fun HT_ HW_ => ?_)
          generalize wr.drew = w24 at HO_3 BK102 HB hx103_0 hx103_1 hx103_2 hHeld ⊢
          refine pr_ 0 (some 21) (mkB 13 1) HT_ ?_
          refine pr_ 1 (some 22) (mkB 13 3) HT_ ?_
          refine pr_ 2 (some 23) (mkB 13 7) HT_ ?_
          refine pr_ 3 (some 24) (mkB 13 15) HT_ ?_
          refine pr_ 4 (some 25) (mkB 13 31) HT_ ?_
          refine pr_ 5 (some 26) (mkB 13 63) HT_ ?_
          refine take_ (i := 6) (N := some 27) (v := ?_) (a' := ?_) (mkB 13 127) rfl rfl (take_ofW HT_.out HW_.out (by kernel_rfl)) (fun _ _ _ h => h) (Or.inl ⟨by rfl, ?_⟩) hHeld ?_ ?_
          rotate_left
          · rintro w' ⟨s0, s1, s2, s3, s4, s5⟩
            go_simp
            with_reducible rfl
          rotate_left
          · simp only [Act.put, List.setIfInBounds_toArray, List.set_cons_zero, List.set_cons_succ, i64_w, i32_w]
            rfl
          refine take_ (i := 8) (N := some 29) (v := ?_) (a' := ?_) (mkB 13 383) rfl rfl (take_ofW HT_.out HW_.out (by kernel_rfl)) (fun _ _ _ h => h) (Or.inl ⟨by rfl, ?_⟩) hHeld ?_ ?_
          rotate_left
          · rintro w' ⟨s0, s1, s2, s3, s4, s5⟩
            go_simp
            with_reducible rfl
          rotate_left
          · simp only [Act.put, List.setIfInBounds_toArray, List.set_cons_zero, List.set_cons_succ, i64_w, i32_w]
            rfl
          refine one_ (i := 7) (N := some 28) (mkB 13 511) rfl rfl (one_of HT_.out (by kernel_rfl)) (by decide) (fun K hK => ?_)
          refine goes_ Try.func38 (by kernel_rfl) rfl #[.agg #[.int .i64 ((rd_T50 x3_2 x7_2).f0), .int .i64 ((rd_T50 x3_2 x7_2).f1), .int .i64 ((rd_T50 x3_2 x7_2).f2)]] (by rfl) rfl rfl (by (try simp only [List.map_toArray, List.map_cons, List.map_nil]); first | done | rfl | (simp only [List.length_drop, List.length_take]; rfl)) ?_
          with_reducible refine (wear_block_mean.calls k2 ((rd_T50 x3_2 x7_2).f0) ((rd_T50 x3_2 x7_2).f1) ((rd_T50 x3_2 x7_2).f2) t104 t105 _ A11.out).mono ?_
          rintro e w26 ⟨rfl, hb⟩
          have HS3_ := (hb.cell (World.block_lt_of_cell? _ _ (hHeld.2.2.2.1))).trans (hHeld.2.2.2.1)
          have HS4_ := (hb.cell (World.block_lt_of_cell? _ _ (hHeld.2.2.2.2.1))).trans (hHeld.2.2.2.2.1)
          have HS5_ := (hb.cell (World.block_lt_of_cell? _ _ (hHeld.2.2.2.2.2))).trans (hHeld.2.2.2.2.2)
          refine ⟨_, rfl, ?_⟩
          have n0_ := Aside0.mk (Kd.R_below (by (with_reducible repeat (first | apply Kd.R_alloc | apply Kd.R_drewN | apply Kd.R_drew)); exact HO_3.out) hb)
          have n1_ := Aside0.mk (bkB BK102 hb)
          have n2_ := Aside0.mk (below_step (by repeat (first | (with_reducible first | exact HB.out | apply below_alloc | apply pw_below_drewN | apply below_drew1 | refine below_set ?_ GE102.out) | exact HB.out)) hb)
          clear HO_3
          clear BK102
          clear HB
          have HO_3 := n0_
          have BK102 := n1_
          have HB := n2_
          clear n0_ n1_ n2_
          (try clear hb)
          (try clear hb2)
          (try clear hk)
          (try clear hi)
          refine hK.out _ _ ⟨(blk_cell BK102.out 0).trans rfl, (blk_cell BK102.out 1).trans rfl, (blk_cell BK102.out 2).trans rfl, HS3_, HS4_, HS5_⟩ (fun hHeld => ?_)
          clear hK K
          refine norm_ (a' := ?_) ?_ ?_
          rotate_left
          · show Act.put _ (some 28) _ = _
            simp only [Act.put, List.setIfInBounds_toArray, List.set_cons_zero, List.set_cons_succ, i64_w, i32_w]
            rfl
          refine one_ (i := 9) (N := some 30) (mkB 13 1023) rfl rfl (one_of HT_.out (by kernel_rfl)) (by decide) (fun K hK => ?_)
          refine goes_ Try.func38 (by kernel_rfl) rfl #[.agg #[.int .i64 x103000_2, .int .i64 x103001_2, .int .i64 x103002_2]] (by rfl) rfl rfl (by (try simp only [List.map_toArray, List.map_cons, List.map_nil]); first | done | rfl | (simp only [List.length_drop, List.length_take]; rfl)) ?_
          with_reducible refine (wear_block_mean.calls k2 x103000_2 x103001_2 x103002_2 t106 t107 _ A12.out).mono ?_
          rintro e w27 ⟨rfl, hb⟩
          have HS3_ := (hb.cell (World.block_lt_of_cell? _ _ (hHeld.2.2.2.1))).trans (hHeld.2.2.2.1)
          have HS4_ := (hb.cell (World.block_lt_of_cell? _ _ (hHeld.2.2.2.2.1))).trans (hHeld.2.2.2.2.1)
          have HS5_ := (hb.cell (World.block_lt_of_cell? _ _ (hHeld.2.2.2.2.2))).trans (hHeld.2.2.2.2.2)
          refine ⟨_, rfl, ?_⟩
          have n0_ := Aside0.mk (Kd.R_below (by (with_reducible repeat (first | apply Kd.R_alloc | apply Kd.R_drewN | apply Kd.R_drew)); exact HO_3.out) hb)
          have n1_ := Aside0.mk (bkB BK102 hb)
          have n2_ := Aside0.mk (below_step (by repeat (first | (with_reducible first | exact HB.out | apply below_alloc | apply pw_below_drewN | apply below_drew1 | refine below_set ?_ GE102.out) | exact HB.out)) hb)
          clear HO_3
          clear BK102
          clear HB
          have HO_3 := n0_
          have BK102 := n1_
          have HB := n2_
          clear n0_ n1_ n2_
          (try clear hb)
          (try clear hb2)
          (try clear hk)
          (try clear hi)
          refine hK.out _ _ ⟨(blk_cell BK102.out 0).trans rfl, (blk_cell BK102.out 1).trans rfl, (blk_cell BK102.out 2).trans rfl, HS3_, HS4_, HS5_⟩ (fun hHeld => ?_)
          clear hK K
          refine norm_ (a' := ?_) ?_ ?_
          rotate_left
          · show Act.put _ (some 30) _ = _
            simp only [Act.put, List.setIfInBounds_toArray, List.set_cons_zero, List.set_cons_succ, i64_w, i32_w]
            rfl
          refine one_ (i := 10) (N := some 31) (mkB 13 2047) rfl rfl (one_of HT_.out (by kernel_rfl)) (by decide) (fun K hK => ?_)
          refine goes_ Try.func28 (by kernel_rfl) rfl #[.agg #[.int .i64 t104, .int .i64 t105], .agg #[.int .i64 t106, .int .i64 t107]] (by rfl) rfl rfl (by (try simp only [List.map_toArray, List.map_cons, List.map_nil]); first | done | rfl | (simp only [List.length_drop, List.length_take]; rfl)) ?_
          with_reducible refine (wear_less.calls t104 t105 t106 t107 false _ A13.out).mono ?_
          rintro e w28 ⟨rfl, hb⟩
          have HS3_ := (hb.cell (World.block_lt_of_cell? _ _ (hHeld.2.2.2.1))).trans (hHeld.2.2.2.1)
          have HS4_ := (hb.cell (World.block_lt_of_cell? _ _ (hHeld.2.2.2.2.1))).trans (hHeld.2.2.2.2.1)
          have HS5_ := (hb.cell (World.block_lt_of_cell? _ _ (hHeld.2.2.2.2.2))).trans (hHeld.2.2.2.2.2)
          refine ⟨_, rfl, ?_⟩
          have n0_ := Aside0.mk (Kd.R_below (by (with_reducible repeat (first | apply Kd.R_alloc | apply Kd.R_drewN | apply Kd.R_drew)); exact HO_3.out) hb)
          have n1_ := Aside0.mk (bkB BK102 hb)
          have n2_ := Aside0.mk (below_step (by repeat (first | (with_reducible first | exact HB.out | apply below_alloc | apply pw_below_drewN | apply below_drew1 | refine below_set ?_ GE102.out) | exact HB.out)) hb)
          clear HO_3
          clear BK102
          clear HB
          have HO_3 := n0_
          have BK102 := n1_
          have HB := n2_
          clear n0_ n1_ n2_
          (try clear hb)
          (try clear hb2)
          (try clear hk)
          (try clear hi)
          refine hK.out _ _ ⟨(blk_cell BK102.out 0).trans rfl, (blk_cell BK102.out 1).trans rfl, (blk_cell BK102.out 2).trans rfl, HS3_, HS4_, HS5_⟩ (fun hHeld => ?_)
          clear hK K
          refine norm_ (a' := ?_) ?_ ?_
          rotate_left
          · show Act.put _ (some 31) _ = _
            simp only [Act.put, List.setIfInBounds_toArray, List.set_cons_zero, List.set_cons_succ, i64_w, i32_w]
            rfl
          refine pr_ 11 (some 32) (mkB 13 4095) HT_ ?_
          refine pr_ 12 (some 33) (mkB 13 8191) HT_ ?_
          refine done_ (done_of HT_.out (by kernel_rfl)) ?_
          try go_wp2
          have n0_ := Aside0.mk (Kd.R_drew HO_3.out)
          have n1_ := Aside0.mk (blk_drew BK102.out)
          have n2_ := Aside0.mk (below_drew1 HB.out)
          clear HO_3
          clear BK102
          clear HB
          have HO_3 := n0_
          have BK102 := n1_
          have HB := n2_
          clear n0_ n1_ n2_
          have p112 : 0 ≤ (x7_2 : Int) := of_decide_eq_true (by first | (with_reducible assumption) | assumption)
          have q112 : x7_2 < (x3_2.length : Int) := of_decide_eq_true (by first | (with_reducible assumption) | assumption)
          obtain ⟨ad112, e112, hx112_0, hx112_1, hx112_2⟩ := at_T50 (Kd.R_reads' HO_3.out).2.2 x7_2 p112 q112
          obtain rfl : ad103 = ad112 := (by injection e112)
          replace p112 := eq_true p112
          replace q112 := eq_true q112
          have p113 : 0 ≤ (x7_2 : Int) := of_decide_eq_true (by first | (with_reducible assumption) | assumption)
          have q113 : x7_2 < (x3_2.length : Int) := of_decide_eq_true (by first | (with_reducible assumption) | assumption)
          obtain ⟨ad113, e113, hx113_0, hx113_1, hx113_2⟩ := at_T50 (Kd.R_reads' HO_3.out).2.2 x7_2 p113 q113
          obtain rfl : ad103 = ad113 := (by injection e113)
          replace p113 := eq_true p113
          replace q113 := eq_true q113
          have p114 : 0 ≤ (x7_2 : Int) := of_decide_eq_true (by first | (with_reducible assumption) | assumption)
          have q114 : x7_2 < (x3_2.length : Int) := of_decide_eq_true (by first | (with_reducible assumption) | assumption)
          obtain ⟨ad114, e114, hx114_0, hx114_1, hx114_2⟩ := at_T50 (Kd.R_reads' HO_3.out).2.2 x7_2 p114 q114
          obtain rfl : ad103 = ad114 := (by injection e114)
          replace p114 := eq_true p114
          replace q114 := eq_true q114
          refine start_ (n := 23) (S := fun w' => w'.cell? ⟨gb102, 0, none⟩ = some (.int .i64 x103000_2) ∧ w'.cell? ⟨gb102, 1, none⟩ = some (.int .i64 x103001_2) ∧ w'.cell? ⟨gb102, 2, none⟩ = some (.int .i64 x103002_2) ∧ w'.cell? (ad103.add ((x7_2).toNat * 3)) = some (.int .i64 ((rd_T50 x3_2 x7_2).f0)) ∧ w'.cell? ⟨(ad103.add ((x7_2).toNat * 3)).block, (ad103.add ((x7_2).toNat * 3)).off + 1, none⟩ = some (.int .i64 ((rd_T50 x3_2 x7_2).f1)) ∧ w'.cell? ⟨(ad103.add ((x7_2).toNat * 3)).block, (ad103.add ((x7_2).toNat * 3)).off + 2, none⟩ = some (.int .i64 ((rd_T50 x3_2 x7_2).f2)) ∧ w'.cell? (ad103.add ((x7_2).toNat * 3)) = some (.int .i64 ((rd_T50 x3_2 x7_2).f0)) ∧ w'.cell? ⟨(ad103.add ((x7_2).toNat * 3)).block, (ad103.add ((x7_2).toNat * 3)).off + 1, none⟩ = some (.int .i64 ((rd_T50 x3_2 x7_2).f1)) ∧ w'.cell? ⟨(ad103.add ((x7_2).toNat * 3)).block, (ad103.add ((x7_2).toNat * 3)).off + 2, none⟩ = some (.int .i64 ((rd_T50 x3_2 x7_2).f2)) ∧ w'.cell? (ad103.add ((x7_2).toNat * 3)) = some (.int .i64 ((rd_T50 x3_2 x7_2).f0)) ∧ w'.cell? ⟨(ad103.add ((x7_2).toNat * 3)).block, (ad103.add ((x7_2).toNat * 3)).off + 1, none⟩ = some (.int .i64 ((rd_T50 x3_2 x7_2).f1)) ∧ w'.cell? ⟨(ad103.add ((x7_2).toNat * 3)).block, (ad103.add ((x7_2).toNat * 3)).off + 2, none⟩ = some (.int .i64 ((rd_T50 x3_2 x7_2).f2))) (ds := [22]) (mkB 23 0) (by kernel_rfl) rfl rfl ⟨(blk_cell BK102.out 0).trans rfl, (blk_cell BK102.out 1).trans rfl, (blk_cell BK102.out 2).trans rfl, hx112_0, hx112_1, hx112_2, hx113_0, hx113_1, hx113_2, hx114_0, hx114_1, hx114_2⟩ (fun hHeld => ?_); refine with_tabW wear_blocks.tab9 wear_blocks.bits9 (fun HT_ HW_ => ?_)
          generalize w28.drew = w29 at HO_3 BK102 HB hx112_0 hx112_1 hx112_2 hx113_0 hx113_1 hx113_2 hx114_0 hx114_1 hx114_2 hHeld ⊢
          refine pr_ 0 (some 36) (mkB 23 1) HT_ ?_
          refine pr_ 1 (some 37) (mkB 23 3) HT_ ?_
          refine pr_ 2 (some 38) (mkB 23 7) HT_ ?_
          refine pr_ 3 (some 39) (mkB 23 15) HT_ ?_
          refine pr_ 5 (some 41) (mkB 23 47) HT_ ?_
          refine pr_ 6 (some 42) (mkB 23 111) HT_ ?_
          refine pr_ 7 (some 43) (mkB 23 239) HT_ ?_
          refine pr_ 8 (some 44) (mkB 23 495) HT_ ?_
          refine pr_ 10 (some 46) (mkB 23 1519) HT_ ?_
          refine pr_ 13 (some 49) (mkB 23 9711) HT_ ?_
          refine pr_ 14 (some 50) (mkB 23 26095) HT_ ?_
          refine pr_ 15 (some 51) (mkB 23 58863) HT_ ?_
          refine pr_ 16 (some 52) (mkB 23 124399) HT_ ?_
          refine pr_ 18 (some 54) (mkB 23 386543) HT_ ?_
          refine take_ (i := 4) (N := some 40) (v := ?_) (a' := ?_) (mkB 23 386559) rfl rfl (take_ofW HT_.out HW_.out (by kernel_rfl)) (fun _ _ _ h => h) (Or.inl ⟨by rfl, ?_⟩) hHeld ?_ ?_
          rotate_left
          · rintro w' ⟨s0, s1, s2, s3, s4, s5, s6, s7, s8, s9, s10, s11⟩
            go_simp
            with_reducible rfl
          rotate_left
          · simp only [Act.put, List.setIfInBounds_toArray, List.set_cons_zero, List.set_cons_succ, i64_w, i32_w]
            rfl
          refine take_ (i := 9) (N := some 45) (v := ?_) (a' := ?_) (mkB 23 387071) rfl rfl (take_ofW HT_.out HW_.out (by kernel_rfl)) (fun _ _ _ h => h) (Or.inl ⟨by rfl, ?_⟩) hHeld ?_ ?_
          rotate_left
          · rintro w' ⟨s0, s1, s2, s3, s4, s5, s6, s7, s8, s9, s10, s11⟩
            go_simp
            with_reducible rfl
          rotate_left
          · simp only [Act.put, List.setIfInBounds_toArray, List.set_cons_zero, List.set_cons_succ, i64_w, i32_w]
            rfl
          refine take_ (i := 11) (N := some 47) (v := ?_) (a' := ?_) (mkB 23 389119) rfl rfl (take_ofW HT_.out HW_.out (by kernel_rfl)) (fun _ _ _ h => h) (Or.inl ⟨by rfl, ?_⟩) hHeld ?_ ?_
          rotate_left
          · rintro w' ⟨s0, s1, s2, s3, s4, s5, s6, s7, s8, s9, s10, s11⟩
            go_simp
            with_reducible rfl
          rotate_left
          · simp only [Act.put, List.setIfInBounds_toArray, List.set_cons_zero, List.set_cons_succ, i64_w, i32_w]
            rfl
          refine pr_ 12 (some 48) (mkB 23 393215) HT_ ?_
          refine take_ (i := 17) (N := some 53) (v := ?_) (a' := ?_) (mkB 23 524287) rfl rfl (take_ofW HT_.out HW_.out (by kernel_rfl)) (fun _ _ _ h => h) (Or.inl ⟨by rfl, ?_⟩) hHeld ?_ ?_
          rotate_left
          · rintro w' ⟨s0, s1, s2, s3, s4, s5, s6, s7, s8, s9, s10, s11⟩
            go_simp
            with_reducible rfl
          rotate_left
          · simp only [Act.put, List.setIfInBounds_toArray, List.set_cons_zero, List.set_cons_succ, i64_w, i32_w]
            rfl
          refine take_ (i := 19) (N := some 55) (v := ?_) (a' := ?_) (mkB 23 1048575) rfl rfl (take_ofW HT_.out HW_.out (by kernel_rfl)) (fun _ _ _ h => h) (Or.inl ⟨by rfl, ?_⟩) hHeld ?_ ?_
          rotate_left
          · rintro w' ⟨s0, s1, s2, s3, s4, s5, s6, s7, s8, s9, s10, s11⟩
            go_simp
            with_reducible rfl
          rotate_left
          · simp only [Act.put, List.setIfInBounds_toArray, List.set_cons_zero, List.set_cons_succ, i64_w, i32_w]
            rfl
          refine pr_ 20 (some 56) (mkB 23 2097151) HT_ ?_
          refine pr_ 21 (some 57) (mkB 23 4194303) HT_ ?_
          refine last_ (i := 22) (N := none) (mkB 23 8388607) rfl rfl (one_of HT_.out (by kernel_rfl)) (by decide) (fun K hK => ?_)
          have hs30 : w29.cell? ⟨gb102, 0, none⟩ = some (.int .i64 x103000_2) := (blk_cell BK102.out 0).trans rfl
          have hfs30 := blk_frozen BK102.out 0
          have hs31 : w29.cell? ⟨gb102, 1, none⟩ = some (.int .i64 x103001_2) := (blk_cell BK102.out 1).trans rfl
          have hfs31 := blk_frozen BK102.out 1
          have hs32 : w29.cell? ⟨gb102, 2, none⟩ = some (.int .i64 x103002_2) := (blk_cell BK102.out 2).trans rfl
          have hfs32 := blk_frozen BK102.out 2
          refine skip_ (w1 := ?_) (by rfl) rfl ?_ ?_
          rotate_left
          · go_simp
            rfl
          refine hK.out _ _ ?_
          clear hK K
          refine done_ (done_of HT_.out (by kernel_rfl)) ?_
          have n0_ : Aside0 (Kd.R k50 50 (((w29.setCell ⟨gb102, 0, none⟩ (.int .i64 ((rd_T50 x3_2 x7_2).f0))).setCell ⟨gb102, 1, none⟩ (.int .i64 (wrap64 (((rd_T50 x3_2 x7_2).f1) + x103001_2)))).setCell ⟨gb102, 2, none⟩ (.int .i64 (wrap64 (((rd_T50 x3_2 x7_2).f2) + x103002_2)))) w.heap.size (fun k_ => k_ ≠ gb102) (.slice (some ad103) x3_2.length co25) x3_2) := ⟨by (with_reducible repeat (first | apply Kd.R_alloc | apply Kd.R_drewN | apply Kd.R_drew)); exact Kd.R_mono (Kd.R_far (p := ⟨gb102, 2, none⟩) (Kd.R_far (p := ⟨gb102, 1, none⟩) (Kd.R_far (p := ⟨gb102, 0, none⟩) (Kd.R_mono HO_3.out (fun k_ hk => (⟨hk, hk⟩ : _ ∧ k_ ≠ gb102))) (fun _ hk => hk.2) (.int .i64 ((rd_T50 x3_2 x7_2).f0))) (fun _ hk => hk.2) (.int .i64 (wrap64 (((rd_T50 x3_2 x7_2).f1) + x103001_2)))) (fun _ hk => hk.2) (.int .i64 (wrap64 (((rd_T50 x3_2 x7_2).f2) + x103002_2)))) (fun _ hk => hk.1)⟩
          have n1_ : Aside0 ((((w29.setCell ⟨gb102, 0, none⟩ (.int .i64 ((rd_T50 x3_2 x7_2).f0))).setCell ⟨gb102, 1, none⟩ (.int .i64 (wrap64 (((rd_T50 x3_2 x7_2).f1) + x103001_2)))).setCell ⟨gb102, 2, none⟩ (.int .i64 (wrap64 (((rd_T50 x3_2 x7_2).f2) + x103002_2)))).heap[gb102]? = some (.cells #[.int .i64 ((rd_T50 x3_2 x7_2).f0), .int .i64 (wrap64 (((rd_T50 x3_2 x7_2).f1) + x103001_2)), .int .i64 (wrap64 (((rd_T50 x3_2 x7_2).f2) + x103002_2))] 50 (0, 0))) := ⟨by (with_reducible repeat (first | refine blk_drewN ?_ _ | refine blk_drew ?_ | refine blk_alloc ?_ _)); refine blk_put (cs := #[.int .i64 ((rd_T50 x3_2 x7_2).f0), .int .i64 (wrap64 (((rd_T50 x3_2 x7_2).f1) + x103001_2)), .int .i64 x103002_2]) ?_ 2 _ rfl; (with_reducible repeat (first | refine blk_drewN ?_ _ | refine blk_drew ?_ | refine blk_alloc ?_ _)); refine blk_put (cs := #[.int .i64 ((rd_T50 x3_2 x7_2).f0), .int .i64 x103001_2, .int .i64 x103002_2]) ?_ 1 _ rfl; (with_reducible repeat (first | refine blk_drewN ?_ _ | refine blk_drew ?_ | refine blk_alloc ?_ _)); refine blk_put (cs := #[.int .i64 x103000_2, .int .i64 x103001_2, .int .i64 x103002_2]) ?_ 0 _ rfl; (with_reducible repeat (first | refine blk_drewN ?_ _ | refine blk_drew ?_ | refine blk_alloc ?_ _)); exact BK102.out⟩
          have n2_ : Aside0 (Below w.heap.size w (((w29.setCell ⟨gb102, 0, none⟩ (.int .i64 ((rd_T50 x3_2 x7_2).f0))).setCell ⟨gb102, 1, none⟩ (.int .i64 (wrap64 (((rd_T50 x3_2 x7_2).f1) + x103001_2)))).setCell ⟨gb102, 2, none⟩ (.int .i64 (wrap64 (((rd_T50 x3_2 x7_2).f2) + x103002_2))))) := ⟨by repeat (first | (with_reducible first | exact HB.out | apply below_alloc | apply pw_below_drewN | apply below_drew1 | refine below_set ?_ GE102.out) | exact HB.out)⟩
          (try clear HO_3)
          (try clear BK102)
          (try clear HB)
          generalize (((w29.setCell ⟨gb102, 0, none⟩ (.int .i64 ((rd_T50 x3_2 x7_2).f0))).setCell ⟨gb102, 1, none⟩ (.int .i64 (wrap64 (((rd_T50 x3_2 x7_2).f1) + x103001_2)))).setCell ⟨gb102, 2, none⟩ (.int .i64 (wrap64 (((rd_T50 x3_2 x7_2).f2) + x103002_2)))) = w33 at n0_ n1_ n2_ ⊢
          have HO_3 := n0_
          have BK102 := n1_
          have HB := n2_
          clear n0_ n1_ n2_
          have q34 : (x7_2 : Int) ≤ ((x3_2.length : Int) : Int) := of_decide_eq_true (by first | (with_reducible assumption) | assumption)
          obtain ⟨i034, hi034, _, hsz34, _⟩ := info_parts info50
          have hcut34 := cut_to (P := Try.prog) 47 50 .i64 Try.underlying47 hi034 (some ad103) x3_2.length co25 x7_2 (of_decide_eq_true (by first | (with_reducible assumption) | assumption)) q34 (Kd.R_reads' HO_3.out).2.1
          have hr34 := Kd.R_take (m := (x7_2 : Int).toNat) HO_3.out (by omega)
          have hy34 : y115.length = (x7_2 : Int).toNat := (by rw [Ny115.out, List.length_take]; omega)
          rw [← Ny115.out] at hr34
          rw [← hy34] at hr34 hcut34
          clear hy34 hi034 hsz34 HO_3
          have HO117 := Aside0.mk hr34
          clear hr34
          replace q34 := eq_true q34
          try go_wp2
          go_roundg k2
          case measure => have := HK1.out; have := HK2.out; omega
          case rel => exact ⟨(y115), (wrap64 (x7_2 - 1)), ((rd_T50 x3_2 x7_2).f0), (wrap64 (((rd_T50 x3_2 x7_2).f1) + x103001_2)), (wrap64 (((rd_T50 x3_2 x7_2).f2) + x103002_2)), (by first | rfl | (simp; done) | (simp [*]; done)), H', ⟨by have := HK1.out; have := HK2.out; omega⟩, ⟨by (with_reducible repeat (first | apply Kd.R_alloc | apply Kd.R_drewN | apply Kd.R_drew)); exact HO117.out⟩, ⟨bkU BK102⟩, ⟨by repeat (first | (with_reducible first | exact HB.out | apply below_alloc | apply pw_below_drewN | apply below_drew1 | refine below_set ?_ GE102.out) | exact HB.out)⟩⟩
end Go.Proofs.Ytklapbgajghhcaa.G
end
