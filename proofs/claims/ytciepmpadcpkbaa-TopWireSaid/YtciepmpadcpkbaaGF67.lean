-- Written by this session's driver (wip/tools/printmore.py) over the kit's print, with hand-written parts.
import Derived.Test.YtciepmpadcpkbaaGBase
namespace Go.Proofs.Ytciepmpadcpkbaa.G
open Go.RowKit Go.Proofs.YtciepmpadcpkbaaW.PrintWords Go.Proofs.YtciepmpadcpkbaaW.PrintLast Go.Proofs.YtciepmpadcpkbaaW.PrintMore
attribute [local go_sem] max2_int min2_int max_two min_two max_three min_three max_four min_four   -- for this text's walks alone
set_option linter.unusedVariables false
set_option linter.unusedSimpArgs false

/-! ### wire_lowestTerms: function 67 -/
def wire_lowestTerms.l0 : Nat → Int → Int → Int → Int → Option (Int × Int)
 | 0, _, _, _, _ => none
 | k + 1, x0, x1, x5, x6 => if x6 = 0 then (if x5 = 0 then (none) else (some (wrap64 (Int.tdiv x0 x5), wrap64 (Int.tdiv x1 x5)))) else (wire_lowestTerms.l0 k x0 x1 x6 (Int.tmod x5 x6))
def wire_lowestTerms.f (k : Nat) (a0 : Int) (a1 : Int) : Option (Int × Int) := wire_lowestTerms.l0 k a0 a1 (mx a0 (wrap64 (-a0))) a1
theorem wire_lowestTerms.mono_l : ∀ k, (∀ y0 y1 y2 y3, LeO (wire_lowestTerms.l0 k y0 y1 y2 y3) (wire_lowestTerms.l0 (k + 1) y0 y1 y2 y3))
 | 0 => fun _ _ _ _ r h => by simp [wire_lowestTerms.l0] at h
 | k + 1 => by
  have ih0 := wire_lowestTerms.mono_l k
  ·intro y0 y1 y2 y3
   unfold wire_lowestTerms.l0
   repeat' first
   | (with_reducible exact ih0 _ _ _ _)
   | (with_reducible exact LeO.refl _)
   | (with_reducible exact LeO.none _)
   | (with_reducible refine LeO.ite ?_ ?_)
   | (with_reducible refine LeO.bind ?_ (fun _ => ?_))
   | exact ih0 _ _ _ _
   | exact LeO.none _
   | refine LeO.ite ?_ ?_
   | refine LeO.bind ?_ (fun _ => ?_)
theorem wire_lowestTerms.mono : ∀ a0 a1 k, LeO (wire_lowestTerms.f k a0 a1) (wire_lowestTerms.f (k + 1) a0 a1) := by
 intro a0 a1 k
 have ih0 := wire_lowestTerms.mono_l k
 unfold wire_lowestTerms.f
 repeat' first
   | (with_reducible exact ih0 _ _ _ _)
   | (with_reducible exact LeO.refl _)
   | (with_reducible exact LeO.none _)
   | (with_reducible refine LeO.ite ?_ ?_)
   | (with_reducible refine LeO.bind ?_ (fun _ => ?_))
   | exact ih0 _ _ _ _
   | exact LeO.none _
   | refine LeO.ite ?_ ?_
   | refine LeO.bind ?_ (fun _ => ?_)
def wire_lowestTerms.T4 : Bool × List (List Nat × List Nat) := (true, [([], []), ([], []), ([0, 1], [0, 1]), ([], []), ([], []), ([3, 4], [3, 4]), ([2, 5], [2, 5]), ([6, 0, 1, 2, 3, 4, 5, 6], [6])])
def wire_lowestTerms.B4 : List Nat := [0, 0, 3, 0, 0, 24, 63, 127]
theorem wire_lowestTerms.tab4 : rtab .any (opsOf Try.f67 4) = wire_lowestTerms.T4 := by kernel_rfl
theorem wire_lowestTerms.bits4 : waitsOk wire_lowestTerms.T4.2 wire_lowestTerms.B4 = true := by kernel_rfl
set_option maxHeartbeats 8000000 in
set_option maxRecDepth 100000 in
theorem wire_lowestTerms.calls (k : Nat) (a0 : Int) (a1 : Int) (r1 : Int) (r2 : Int) (w : World) (h : wire_lowestTerms.f k a0 a1 = some (r1, r2)) :
  Calls Try.prog 67 #[.int .i64 a0, .int .i64 a1] w fun e w' => e = .returned (.agg #[.int .i64 r1, .int .i64 r2]) ∧ Below w.heap.size w w' := by
 have hu55 := Try.underlying55
 have HB := A_ (Below.refl w.heap.size w)
 have H : (wire_lowestTerms.l0 k a0 a1 (mx a0 (wrap64 (-a0))) a1) = some (r1, r2) := h
 clear h
 obtain ⟨ji3, hji3⟩ : ∃ j_ : Int, (mx a0 (wrap64 (-a0))) = j_ := ⟨_, rfl⟩
 replace H : (wire_lowestTerms.l0 k a0 a1 ji3 a1) = some (r1, r2) := by first | (rw [hji3] at H; exact H) | (simp only [hji3] at H ⊢; exact H)
 have hji3_ : (if a0 < (wrap64 (-a0)) then (wrap64 (-a0)) else a0) = ji3 := hji3
 have H' := A_ H
 clear H
 go_enter Try.func67, Try.ntmps67
 go_wp2_with (first | ((with_reducible refine gate_dst (N := 4) rfl ?_); refine box_event ?hg (N := 4) ?hd (cs := #[.int .i64 0, .int .i64 0]) (t := 55) ?hr ?_; (case hd => rfl); (case hg => rfl); (case hr => first | (go_simp; done) | (go_simp; rfl)); intro gb101 hg w4 hbox hb; have n0_ := A_ (below_step (bW0 HB.out) hb); have n1_ := A_ (hbox); have n2_ := A_ ((szG hg (bW0 HB.out))); have n3_ := A_ ((szG hg (bW0 HB.out))); clear HB; have HB := n0_; have BK101 := n1_; have GW101 := n2_; have GE101 := n3_; clear n0_ n1_ n2_ n3_; clear hb hbox hg))
 go_loopg [5, 6] k (fun kq v5 v6 w' => ∃ (x5_1 : Int) (x6_1 : Int), v5 = .int .i64 x5_1 ∧ v6 = .int .i64 x6_1 ∧ Aside0 (wire_lowestTerms.l0 kq a0 a1 x5_1 x6_1 = some (r1, r2)) ∧ Aside0 (kq ≤ k) ∧ Aside0 (w'.heap[gb101]? = some (.cells #[.int .i64 0, .int .i64 0] 55 (0, 0))) ∧ Aside0 (Below w.heap.size w w'))
 case atStart => exact ⟨(ji3), (a1), (by first | rfl | (simp; done) | (simp only [← hji3] <;> (first | rfl | simp)) | (simp [*]; done)), (by first | rfl | (simp; done) | (simp [*]; done)), H', ⟨Nat.le_refl _⟩, ⟨bkU BK101⟩, ⟨by repeat (first | (with_reducible first | exact HB.out | apply below_alloc | apply pw_below_drewN | apply below_drew1 | refine below_set ?_ GE101.out) | exact HB.out)⟩⟩
 case round =>
  clear H'
  try clear p2
  obtain ⟨x5_1, x6_1, rfl, rfl, HA, HK1, BK101, HB⟩ := hrel
  cases gk with
  | zero => exact absurd HA.out (by simp [wire_lowestTerms.l0])
  | succ k1 =>
   have H := HA.out
   clear HA
   simp only [wire_lowestTerms.l0] at H
   by_cases c5 : x6_1 = 0
   ·rw [if_pos c5] at H
    have c5b0 : (x6_1 == 0) = true := beq_iff_eq.mpr c5
    have c5b1 : (x6_1 != 0) = false := bne_eq_false_iff_eq.mpr c5
    clear c5
    by_cases c6 : x5_1 = 0
    ·rw [if_pos c6] at H
     exact absurd H (by simp)
    rw [if_neg c6] at H
    have c6b0 : (x5_1 == 0) = false := beq_eq_false_iff_ne.mpr c6
    have c6b1 : (x5_1 != 0) = true := bne_iff_ne.mpr c6
    simp only [Option.some.injEq, Prod.mk.injEq] at H
    obtain ⟨rfl, rfl⟩ := H
    try go_wp2
    have n0_ := A_ (blk_drew BK101.out)
    have n1_ := A_ (below_drew1 HB.out)
    clear BK101
    clear HB
    have BK101 := n0_
    have HB := n1_
    clear n0_ n1_
    refine start_ (n := 8) (S := fun w' => True) (ds := []) (mkB 8 0) (by kernel_rfl) rfl rfl trivial (fun hHeld => ?_); refine with_tabW wire_lowestTerms.tab4 wire_lowestTerms.bits4 (fun HT_ HW_ => ?_)
    generalize wr.drew = w7 at BK101 HB hHeld ⊢
    refine pr_ 0 (some 18) (mkB 8 1) HT_ ?_
    refine pr_ 1 (some 19) (mkB 8 3) HT_ ?_
    refine pr_ 2 (some 20) (mkB 8 7) HT_ ?_
    refine pr_ 3 (some 21) (mkB 8 15) HT_ ?_
    refine pr_ 4 (some 22) (mkB 8 31) HT_ ?_
    refine pr_ 5 (some 23) (mkB 8 63) HT_ ?_
    refine pr_ 6 (some 24) (mkB 8 127) HT_ ?_
    refine one_ (i := 7) (N := none) (mkB 8 255) rfl rfl (one_of HT_.out (by kernel_rfl)) (by decide) (fun K hK => ?_)
    have hs8 : w7.cell? ⟨gb101, 0, none⟩ = some (.int .i64 0) := (blk_cell BK101.out 0).trans rfl
    have hfs8 := blk_frozen BK101.out 0
    have hs9 : w7.cell? ⟨gb101, 1, none⟩ = some (.int .i64 0) := (blk_cell BK101.out 1).trans rfl
    have hfs9 := blk_frozen BK101.out 1
    refine skip_ (w1 := ?_) (by rfl) rfl ?_ ?_
    rotate_left
    ·go_simp
     rfl
    refine hK.out _ _ trivial (fun hHeld => ?_)
    clear hK K
    refine done_ (done_of HT_.out (by kernel_rfl)) ?_
    try go_wp2
    refine bodyPost_ret (results_cell_row rfl _ _ gb101 55 #[.int .i64 (wrap64 (Int.tdiv a0 x5_1)), .int .i64 (wrap64 (Int.tdiv a1 x5_1))] (0, 0) _ rfl (by (with_reducible repeat (first | refine blk_drewN ?_ _ | refine blk_drew ?_ | refine blk_alloc ?_ _)); refine blk_put (cs := #[.int .i64 (wrap64 (Int.tdiv a0 x5_1)), .int .i64 0]) ?_ 1 _ rfl; (with_reducible repeat (first | refine blk_drewN ?_ _ | refine blk_drew ?_ | refine blk_alloc ?_ _)); refine blk_put (cs := #[.int .i64 0, .int .i64 0]) ?_ 0 _ rfl; exact bkU BK101) Try.underlying55 rfl (by kernel_rfl)) rfl ?_
    exact ⟨by first | rfl | (simp [errW_none, errW_some] <;> rfl) | (simp only [← hji3]; first | rfl | (simp [errW_none, errW_some] <;> rfl)) | (simp [*, errW_none, errW_some] <;> rfl), by repeat (first | (with_reducible first | exact HB.out | apply below_alloc | apply pw_below_drewN | apply below_drew1 | refine below_set ?_ GE101.out) | exact HB.out)⟩
   rw [if_neg c5] at H
   have c5b0 : (x6_1 == 0) = false := beq_eq_false_iff_ne.mpr c5
   have c5b1 : (x6_1 != 0) = true := bne_iff_ne.mpr c5
   have H' := A_ H
   clear H
   try go_wp2
   have n0_ := A_ (blk_drew BK101.out)
   have n1_ := A_ (below_drew1 HB.out)
   clear BK101
   clear HB
   have BK101 := n0_
   have HB := n1_
   clear n0_ n1_
   refine start_ (n := 6) (S := fun w' => True) (ds := []) (mkB 6 0) (by kernel_rfl) rfl rfl trivial (fun hHeld => ?_)
   generalize wr.drew = w10 at BK101 HB hHeld ⊢
   refine pure_ (i := 0) (N := some 14) (v := ?_) (a' := ?_) (mkB 6 1) rfl rfl (by kernel_rfl) (fun _ _ _ h => h) (Or.inl ⟨by rfl, ?_⟩) ?_ ?_
   rotate_left
   ·intro w'
    go_simp
    with_reducible rfl
   rotate_left
   ·simp only [Act.put, List.setIfInBounds_toArray, List.set_cons_zero, List.set_cons_succ, i64_w, i32_w]
    rfl
   refine pure_ (i := 1) (N := some 15) (v := ?_) (a' := ?_) (mkB 6 3) rfl rfl (by kernel_rfl) (fun _ _ _ h => h) (Or.inl ⟨by rfl, ?_⟩) ?_ ?_
   rotate_left
   ·intro w'
    go_simp
    with_reducible rfl
   rotate_left
   ·simp only [Act.put, List.setIfInBounds_toArray, List.set_cons_zero, List.set_cons_succ, i64_w, i32_w]
    rfl
   refine pure_ (i := 2) (N := some 16) (v := ?_) (a' := ?_) (mkB 6 7) rfl rfl (by kernel_rfl) (fun _ _ _ h => h) (Or.inl ⟨by rfl, ?_⟩) ?_ ?_
   rotate_left
   ·intro w'
    go_simp
    with_reducible rfl
   rotate_left
   ·simp only [Act.put, List.setIfInBounds_toArray, List.set_cons_zero, List.set_cons_succ, i64_w, i32_w]
    rfl
   refine pure_ (i := 3) (N := some 17) (v := ?_) (a' := ?_) (mkB 6 15) rfl rfl (by kernel_rfl) (fun _ _ _ h => h) (Or.inl ⟨by rfl, ?_⟩) ?_ ?_
   rotate_left
   ·intro w'
    go_simp
    with_reducible rfl
   rotate_left
   ·simp only [Act.put, List.setIfInBounds_toArray, List.set_cons_zero, List.set_cons_succ, i64_w, i32_w]
    rfl
   refine pure_ (i := 4) (N := some 5) (v := ?_) (a' := ?_) (mkB 6 31) rfl rfl (by kernel_rfl) (fun _ _ _ h => h) (Or.inl ⟨by rfl, ?_⟩) ?_ ?_
   rotate_left
   ·intro w'
    go_simp
    with_reducible rfl
   rotate_left
   ·simp only [Act.put, List.setIfInBounds_toArray, List.set_cons_zero, List.set_cons_succ, i64_w, i32_w]
    rfl
   refine pure_ (i := 5) (N := some 6) (v := ?_) (a' := ?_) (mkB 6 63) rfl rfl (by kernel_rfl) (fun _ _ _ h => h) (Or.inl ⟨by rfl, ?_⟩) ?_ ?_
   rotate_left
   ·intro w'
    go_simp
    with_reducible rfl
   rotate_left
   ·simp only [Act.put, List.setIfInBounds_toArray, List.set_cons_zero, List.set_cons_succ, i64_w, i32_w]
    rfl
   refine done_ (by kernel_rfl) ?_
   try go_wp2
   go_roundg k1
   case measure => have := HK1.out; omega
   case rel => exact ⟨(x6_1), (Int.tmod x5_1 x6_1), (by first | rfl | (simp; done) | (simp [*]; done)), (by first | rfl | (simp; done) | (simp [*]; done)), H', ⟨by have := HK1.out; omega⟩, ⟨bkU BK101⟩, ⟨by repeat (first | (with_reducible first | exact HB.out | apply below_alloc | apply pw_below_drewN | apply below_drew1 | refine below_set ?_ GE101.out) | exact HB.out)⟩⟩

end Go.Proofs.Ytciepmpadcpkbaa.G
