/- Functions of the seat and plain laws about them: GF33, GF15. -/
import Derived.Test.YtklapbgajghhcaaGBase
import Derived.Test.YtklapbgajghhcaaZW11
import Derived.Test.YtklapbgajghhcaaZW0
import Derived.Test.YtklapbgajghhcaaZW6
section
namespace Go.Proofs.Ytklapbgajghhcaa.G
open Go.RowKit Go.Proofs.YtklapbgajghhcaaW.PrintWords Go.Proofs.YtklapbgajghhcaaW.PrintLast Go.Proofs.YtklapbgajghhcaaW.PrintMore
attribute [local go_sem] max2_int min2_int max_two min_two max_three min_three max_four min_four
set_option linter.unusedVariables false
set_option linter.unusedSimpArgs false
def dropperref07_ratio.f (k : Nat) (a0 : Int) (a1 : Int) : Option (Int × Int) := (dropperref07_divisor.f k a0 a1).bind fun t102 => (if t102 = 0 then (none) else (some (wrap64 (Int.tdiv a0 t102), wrap64 (Int.tdiv a1 t102))))
theorem dropperref07_ratio.mono : ∀ a0 a1 k, LeO (dropperref07_ratio.f k a0 a1) (dropperref07_ratio.f (k + 1) a0 a1) := by
  intro a0 a1 k
  unfold dropperref07_ratio.f
  repeat' first
      | (with_reducible exact dropperref07_divisor.mono _ _ _)
      | (with_reducible exact LeO.refl _)
      | (with_reducible exact LeO.none _)
      | (with_reducible refine LeO.ite ?_ ?_)
      | (with_reducible refine LeO.bind ?_ (fun _ => ?_))
      | exact dropperref07_divisor.mono _ _ _
      | exact LeO.none _
      | refine LeO.ite ?_ ?_
      | refine LeO.bind ?_ (fun _ => ?_)
def dropperref07_ratio.T2 : Bool × List (List Nat × List Nat) := (true, [([], []), ([], []), ([0, 1], [0, 1]), ([], []), ([], []), ([3, 4], [3, 4]), ([2, 5], [2, 5]), ([6, 0, 1, 2, 3, 4, 5, 6], [6])])
def dropperref07_ratio.B2 : List Nat := [0, 0, 3, 0, 0, 24, 63, 127]
theorem dropperref07_ratio.tab2 : rtab .any (opsOf Try.f33 2) = dropperref07_ratio.T2 := by kernel_rfl
theorem dropperref07_ratio.bits2 : waitsOk dropperref07_ratio.T2.2 dropperref07_ratio.B2 = true := by kernel_rfl
set_option maxHeartbeats 8000000 in
set_option maxRecDepth 100000 in
theorem dropperref07_ratio.calls (k : Nat) (a0 : Int) (a1 : Int) (r1 : Int) (r2 : Int) (w : World) (h : dropperref07_ratio.f k a0 a1 = some (r1, r2)) :
    Calls Try.prog 33 #[.int .i64 a0, .int .i64 a1] w fun e w' => e = .returned (.agg #[.int .i64 r1, .int .i64 r2]) ∧ Below w.heap.size w w' := by
  have hu35 := Try.underlying35
  have HB := Aside0.mk (Below.refl w.heap.size w)
  have H : ((dropperref07_divisor.f k a0 a1).bind fun t102 => (if t102 = 0 then (none) else (some (wrap64 (Int.tdiv a0 t102), wrap64 (Int.tdiv a1 t102))))) = some (r1, r2) := h
  clear h
  replace H := Option.bind_eq_some_iff.mp H
  obtain ⟨t102, A30, H⟩ := H
  replace H : (if t102 = 0 then (none) else (some (wrap64 (Int.tdiv a0 t102), wrap64 (Int.tdiv a1 t102)))) = some (r1, r2) := H
  have A3 := Aside0.mk A30
  clear A30
  by_cases c4 : t102 = 0
  · rw [if_pos c4] at H
    exact absurd H (by simp)
  rw [if_neg c4] at H
  have c4b0 : (t102 == 0) = false := beq_eq_false_iff_ne.mpr c4
  have c4b1 : (t102 != 0) = true := bne_iff_ne.mpr c4
  simp only [Option.some.injEq, Prod.mk.injEq] at H
  obtain ⟨rfl, rfl⟩ := H
  go_enter Try.func33, Try.ntmps33
  try go_wp2_with (first | ((with_reducible refine gate_dst (N := 4) rfl ?_); refine box_event ?hg (N := 4) ?hd (cs := #[.int .i64 0, .int .i64 0]) (t := 35) ?hr ?_; (case hd => rfl); (case hg => rfl); (case hr => first | (go_simp; done) | (go_simp; rfl)); intro gb101 hg w5 hbox hb; have n0_ := Aside0.mk (below_step (by repeat (first | (with_reducible first | exact HB.out | apply below_alloc | apply pw_below_drewN | apply below_drew1) | exact HB.out)) hb); have n1_ := Aside0.mk (hbox); have n2_ := Aside0.mk ((by rw [hg]; exact (below_size (by repeat (first | (with_reducible first | exact HB.out | apply below_alloc | apply pw_below_drewN | apply below_drew1) | exact HB.out))) : w.heap.size ≤ gb101)); have n3_ := Aside0.mk ((by rw [hg]; exact (below_size (by repeat (first | (with_reducible first | exact HB.out | apply below_alloc | apply pw_below_drewN | apply below_drew1) | exact HB.out))) : w.heap.size ≤ gb101)); clear HB; have HB := n0_; have BK101 := n1_; have GW101 := n2_; have GE101 := n3_; clear n0_ n1_ n2_ n3_; clear hb hbox hg) | ((with_reducible refine gate_callee (f := 32) rfl ?_); refine goesL_ (some 8) rfl rfl Try.func32 (by kernel_rfl) rfl #[.int .i64 a0, .int .i64 a1] rfl (by (try simp only [List.map_toArray, List.map_cons, List.map_nil]); first | done | rfl | (simp only [List.length_drop, List.length_take]; rfl)) ?_; (with_reducible refine (dropperref07_divisor.calls k a0 a1 t102 _ A3.out).mono ?_); rintro e w6 ⟨rfl, hb⟩; refine ⟨_, rfl, ?_⟩; have n0_ := Aside0.mk (bkB BK101 hb); have n1_ := Aside0.mk (below_step (by repeat (first | (with_reducible first | exact HB.out | apply below_alloc | apply pw_below_drewN | apply below_drew1 | refine below_set ?_ GE101.out) | exact HB.out)) hb); clear BK101; clear HB; have BK101 := n0_; have HB := n1_; clear n0_ n1_; (try clear hb); (try clear hb2); (try clear hk); (try clear hi)))
  have n0_ := Aside0.mk (blk_drew BK101.out)
  have n1_ := Aside0.mk (below_drew1 HB.out)
  clear BK101
  clear HB
  have BK101 := n0_
  have HB := n1_
  clear n0_ n1_
  refine start_ (n := 8) (S := fun w' => True) (ds := []) (mkB 8 0) (by kernel_rfl) rfl rfl trivial (fun hHeld => ?_); refine with_tabW dropperref07_ratio.tab2 dropperref07_ratio.bits2 (fun HT_ HW_ => ?_)
  generalize w6.drew = w7 at BK101 HB hHeld ⊢
  refine pr_ 0 (some 9) (mkB 8 1) HT_ ?_
  refine pr_ 1 (some 10) (mkB 8 3) HT_ ?_
  refine pr_ 2 (some 11) (mkB 8 7) HT_ ?_
  refine pr_ 3 (some 12) (mkB 8 15) HT_ ?_
  refine pr_ 4 (some 13) (mkB 8 31) HT_ ?_
  refine pr_ 5 (some 14) (mkB 8 63) HT_ ?_
  refine pr_ 6 (some 15) (mkB 8 127) HT_ ?_
  refine one_ (i := 7) (N := none) (mkB 8 255) rfl rfl (one_of HT_.out (by kernel_rfl)) (by decide) (fun K hK => ?_)
  have hs8 : w7.cell? ⟨gb101, 0, none⟩ = some (.int .i64 0) := (blk_cell BK101.out 0).trans rfl
  have hfs8 := blk_frozen BK101.out 0
  have hs9 : w7.cell? ⟨gb101, 1, none⟩ = some (.int .i64 0) := (blk_cell BK101.out 1).trans rfl
  have hfs9 := blk_frozen BK101.out 1
  refine skip_ (w1 := ?_) (by rfl) rfl ?_ ?_
  rotate_left
  · go_simp
    rfl
  refine hK.out _ _ trivial (fun hHeld => ?_)
  clear hK K
  refine done_ (done_of HT_.out (by kernel_rfl)) ?_
  try go_wp2
  refine bodyPost_ret (results_cell_row rfl _ _ gb101 35 #[.int .i64 (wrap64 (Int.tdiv a0 t102)), .int .i64 (wrap64 (Int.tdiv a1 t102))] (0, 0) _ rfl (by (with_reducible repeat (first | refine blk_drewN ?_ _ | refine blk_drew ?_ | refine blk_alloc ?_ _)); refine blk_put (cs := #[.int .i64 (wrap64 (Int.tdiv a0 t102)), .int .i64 0]) ?_ 1 _ rfl; (with_reducible repeat (first | refine blk_drewN ?_ _ | refine blk_drew ?_ | refine blk_alloc ?_ _)); refine blk_put (cs := #[.int .i64 0, .int .i64 0]) ?_ 0 _ rfl; (with_reducible repeat (first | refine blk_drewN ?_ _ | refine blk_drew ?_ | refine blk_alloc ?_ _)); exact BK101.out) Try.underlying35 rfl (by kernel_rfl)) rfl ?_
  exact ⟨by first | rfl | (simp [errW_none, errW_some] <;> rfl) | (simp [*, errW_none, errW_some] <;> rfl), by repeat (first | (with_reducible first | exact HB.out | apply below_alloc | apply pw_below_drewN | apply below_drew1 | refine below_set ?_ GE101.out) | exact HB.out)⟩
mutual
def dropperref07_Error.l0 : Nat → List Int → List (S35) → Int → Int → Option (Int × Int × Int)
  | 0, _, _, _, _ => none
  | k + 1, x0, x1, x6, x7 => if x7 < (x1.length : Int) then (if 0 ≤ x7 then ((dropperref07_divisor.f k x6 ((rd_T35 x1 x7).f1)).bind fun t105 => (if t105 = 0 then (none) else (if (wrap64 ((wrap64 (Int.tdiv x6 t105)) * ((rd_T35 x1 x7).f1))) > 10000 then (some (0, 0, 4)) else (dropperref07_Error.l0 k x0 x1 (wrap64 ((wrap64 (Int.tdiv x6 t105)) * ((rd_T35 x1 x7).f1))) (wrap64 (x7 + 1)))))) else (none)) else (dropperref07_Error.l1 k x0 x1 x6 0 0)
def dropperref07_Error.l1 : Nat → List Int → List (S35) → Int → Int → Int → Option (Int × Int × Int)
  | 0, _, _, _, _, _ => none
  | k + 1, x0, x1, x6, x8, x9 => if x9 < (x1.length : Int) then (if 0 ≤ x9 then (if ((rd_T35 x1 x9).f1) = 0 then (none) else (if x9 < (x0.length : Int) then (dropperref07_Error.l1 k x0 x1 x6 (wrap64 (x8 + (wrap64 ((wrap64 ((wrap64 (((rd_T35 x1 x9).f0) * (wrap64 (Int.tdiv x6 ((rd_T35 x1 x9).f1))))) - (wrap64 ((rd x0 x9) * x6)))) * (wrap64 ((wrap64 (((rd_T35 x1 x9).f0) * (wrap64 (Int.tdiv x6 ((rd_T35 x1 x9).f1))))) - (wrap64 ((rd x0 x9) * x6)))))))) (wrap64 (x9 + 1))) else (none))) else (none)) else ((dropperref07_ratio.f k x8 (wrap64 (x6 * x6))).bind fun bt110 => (some (bt110.1, bt110.2, 0)))
end
def dropperref07_Error.f (k : Nat) (l0 : List Int) (l1 : List (S35)) : Option (Int × Int × Int) := (dropperref07_Valid.f k l0).bind fun t102 => (if t102 = true then ((dropperref07_IsRow.f k l0 l1).bind fun t103 => (if t103 = true then (dropperref07_Error.l0 k l0 l1 1 0) else (some (0, 0, 2)))) else (some (0, 0, 70)))
theorem dropperref07_Error.mono_l : ∀ k, (∀ y0 y1 y2 y3, LeO (dropperref07_Error.l0 k y0 y1 y2 y3) (dropperref07_Error.l0 (k + 1) y0 y1 y2 y3)) ∧ (∀ y0 y1 y2 y3 y4, LeO (dropperref07_Error.l1 k y0 y1 y2 y3 y4) (dropperref07_Error.l1 (k + 1) y0 y1 y2 y3 y4))
  | 0 => ⟨fun _ _ _ _ r h => by simp [dropperref07_Error.l0] at h, fun _ _ _ _ _ r h => by simp [dropperref07_Error.l1] at h⟩
  | k + 1 => by
    obtain ⟨ih0, ih1⟩ := dropperref07_Error.mono_l k
    refine ⟨?_, ?_⟩
    · intro y0 y1 y2 y3
      unfold dropperref07_Error.l0
      repeat' first
      | (with_reducible exact ih0 _ _ _ _)
      | (with_reducible exact ih1 _ _ _ _ _)
      | (with_reducible exact dropperref07_IsRow.mono _ _ _)
      | (with_reducible exact dropperref07_Valid.mono _ _)
      | (with_reducible exact dropperref07_divisor.mono _ _ _)
      | (with_reducible exact dropperref07_ratio.mono _ _ _)
      | (with_reducible exact LeO.refl _)
      | (with_reducible exact LeO.none _)
      | (with_reducible refine LeO.ite ?_ ?_)
      | (with_reducible refine LeO.bind ?_ (fun _ => ?_))
      | exact ih0 _ _ _ _
      | exact ih1 _ _ _ _ _
      | exact dropperref07_IsRow.mono _ _ _
      | exact dropperref07_Valid.mono _ _
      | exact dropperref07_divisor.mono _ _ _
      | exact dropperref07_ratio.mono _ _ _
      | exact LeO.none _
      | refine LeO.ite ?_ ?_
      | refine LeO.bind ?_ (fun _ => ?_)
    · intro y0 y1 y2 y3 y4
      unfold dropperref07_Error.l1
      repeat' first
      | (with_reducible exact ih0 _ _ _ _)
      | (with_reducible exact ih1 _ _ _ _ _)
      | (with_reducible exact dropperref07_IsRow.mono _ _ _)
      | (with_reducible exact dropperref07_Valid.mono _ _)
      | (with_reducible exact dropperref07_divisor.mono _ _ _)
      | (with_reducible exact dropperref07_ratio.mono _ _ _)
      | (with_reducible exact LeO.refl _)
      | (with_reducible exact LeO.none _)
      | (with_reducible refine LeO.ite ?_ ?_)
      | (with_reducible refine LeO.bind ?_ (fun _ => ?_))
      | exact ih0 _ _ _ _
      | exact ih1 _ _ _ _ _
      | exact dropperref07_IsRow.mono _ _ _
      | exact dropperref07_Valid.mono _ _
      | exact dropperref07_divisor.mono _ _ _
      | exact dropperref07_ratio.mono _ _ _
      | exact LeO.none _
      | refine LeO.ite ?_ ?_
      | refine LeO.bind ?_ (fun _ => ?_)
theorem dropperref07_Error.mono : ∀ a0 a1 k, LeO (dropperref07_Error.f k a0 a1) (dropperref07_Error.f (k + 1) a0 a1) := by
  intro a0 a1 k
  obtain ⟨ih0, ih1⟩ := dropperref07_Error.mono_l k
  unfold dropperref07_Error.f
  repeat' first
      | (with_reducible exact ih0 _ _ _ _)
      | (with_reducible exact ih1 _ _ _ _ _)
      | (with_reducible exact dropperref07_IsRow.mono _ _ _)
      | (with_reducible exact dropperref07_Valid.mono _ _)
      | (with_reducible exact dropperref07_divisor.mono _ _ _)
      | (with_reducible exact dropperref07_ratio.mono _ _ _)
      | (with_reducible exact LeO.refl _)
      | (with_reducible exact LeO.none _)
      | (with_reducible refine LeO.ite ?_ ?_)
      | (with_reducible refine LeO.bind ?_ (fun _ => ?_))
      | exact ih0 _ _ _ _
      | exact ih1 _ _ _ _ _
      | exact dropperref07_IsRow.mono _ _ _
      | exact dropperref07_Valid.mono _ _
      | exact dropperref07_divisor.mono _ _ _
      | exact dropperref07_ratio.mono _ _ _
      | exact LeO.none _
      | refine LeO.ite ?_ ?_
      | refine LeO.bind ?_ (fun _ => ?_)
def dropperref07_Error.T9 : Bool × List (List Nat × List Nat) := (true, [([], []), ([], []), ([], []), ([], []), ([2, 3], [2, 3]), ([4], [4]), ([5], [5]), ([1, 6], [1, 6]), ([0, 7], [0, 7]), ([], []), ([], []), ([9, 10], [9, 10]), ([11], [11]), ([12], [12]), ([8, 13], [8, 13]), ([14, 7, 0, 1, 2, 3, 4, 5, 6, 7, 8, 9, 10, 11, 12, 13, 14], [0, 1, 14])])
def dropperref07_Error.B9 : List Nat := [0, 0, 0, 0, 12, 28, 60, 126, 255, 0, 0, 1536, 3584, 7680, 16383, 32767]
theorem dropperref07_Error.tab9 : rtab .any (opsOf Try.f15 9) = dropperref07_Error.T9 := by kernel_rfl
theorem dropperref07_Error.bits9 : waitsOk dropperref07_Error.T9.2 dropperref07_Error.B9 = true := by kernel_rfl
def dropperref07_Error.T16 : Bool × List (List Nat × List Nat) := (true, [([], []), ([], []), ([0, 1], [0, 1]), ([2], [2]), ([3], [3]), ([], []), ([], []), ([], []), ([6, 7], [6, 7]), ([8], [8]), ([9], [9]), ([5, 10], [5, 10]), ([4, 11], [4, 11]), ([], []), ([], []), ([13, 14], [13, 14]), ([15], [15]), ([], []), ([16, 17], [16, 17]), ([12, 18], [12, 18]), ([19, 0, 1, 2, 3, 4, 5, 6, 7, 8, 9, 10, 11, 12, 13, 14, 15, 16, 17, 18, 19], [19])])
def dropperref07_Error.B16 : List Nat := [0, 0, 3, 7, 15, 0, 0, 0, 192, 448, 960, 2016, 4095, 0, 0, 24576, 57344, 0, 253952, 524287, 1048575]
theorem dropperref07_Error.tab16 : rtab .any (opsOf Try.f15 16) = dropperref07_Error.T16 := by kernel_rfl
theorem dropperref07_Error.bits16 : waitsOk dropperref07_Error.T16.2 dropperref07_Error.B16 = true := by kernel_rfl
set_option maxHeartbeats 8000000 in
set_option maxRecDepth 100000 in
theorem dropperref07_Error.calls (k : Nat) (A0 : Option Addr) (c0 : Nat) (l0 : List Int) (A1 : Option Addr) (c1 : Nat) (l1 : List (S35)) (r1 : Int) (r2 : Int) (r3 : Int) (w : World) (hr0 : Kd.C (Kd.int .i64) w A0 l0.length l0) (hc0 : l0.length ≤ c0) (hr1 : Kd.C k35 w A1 l1.length l1) (hc1 : l1.length ≤ c1) (h : dropperref07_Error.f k l0 l1 = some (r1, r2, r3)) :
    Calls Try.prog 15 #[.slice A0 l0.length c0, .slice A1 l1.length c1] w fun e w' => e = .returned (.tuple #[.agg #[.int .i64 r1, .int .i64 r2], .int .i64 r3]) ∧ Below w.heap.size w w' := by
  have hu35 := Try.underlying35
  have HR0 := Aside0.mk hr0
  have HC0 := Aside0.mk hc0
  clear hr0 hc0
  have HR1 := Aside0.mk hr1
  have HC1 := Aside0.mk hc1
  clear hr1 hc1
  have HB := Aside0.mk (Below.refl w.heap.size w)
  have H : ((dropperref07_Valid.f k l0).bind fun t102 => (if t102 = true then ((dropperref07_IsRow.f k l0 l1).bind fun t103 => (if t103 = true then (dropperref07_Error.l0 k l0 l1 1 0) else (some (0, 0, 2)))) else (some (0, 0, 70)))) = some (r1, r2, r3) := h
  clear h
  replace H := Option.bind_eq_some_iff.mp H
  obtain ⟨t102, A30, H⟩ := H
  replace H : (if t102 = true then ((dropperref07_IsRow.f k l0 l1).bind fun t103 => (if t103 = true then (dropperref07_Error.l0 k l0 l1 1 0) else (some (0, 0, 2)))) else (some (0, 0, 70))) = some (r1, r2, r3) := H
  have A3 := Aside0.mk A30
  clear A30
  by_cases c4 : t102 = true
  rotate_left
  · replace c4 := Bool.eq_false_iff.mpr c4
    subst c4
    have H1 : (some (0, 0, 70)) = some (r1, r2, r3) := by rw [if_neg (show ¬ (false = true) by decide)] at H; exact H
    clear H
    have H := H1
    clear H1
    simp only [Option.some.injEq, Prod.mk.injEq] at H
    obtain ⟨rfl, rfl, rfl⟩ := H
    go_enter Try.func15, Try.ntmps15
    go_wp2_with (first | ((with_reducible refine gate_dst (N := 4) rfl ?_); refine box_event ?hg (N := 4) ?hd (cs := #[.int .i64 0, .int .i64 0]) (t := 35) ?hr ?_; (case hd => rfl); (case hg => rfl); (case hr => first | (go_simp; done) | (go_simp; rfl)); intro gb101 hg w30 hbox hb; have n0_ := Aside0.mk (below_step (by repeat (first | (with_reducible first | exact HB.out | apply below_alloc | apply pw_below_drewN | apply below_drew1) | exact HB.out)) hb); have n1_ := Aside0.mk (hbox); have n2_ := Aside0.mk ((by rw [hg]; exact (below_size (by repeat (first | (with_reducible first | exact HB.out | apply below_alloc | apply pw_below_drewN | apply below_drew1) | exact HB.out))) : w.heap.size ≤ gb101)); have n3_ := Aside0.mk ((by rw [hg]; exact (below_size (by repeat (first | (with_reducible first | exact HB.out | apply below_alloc | apply pw_below_drewN | apply below_drew1) | exact HB.out))) : w.heap.size ≤ gb101)); clear HB; have HB := n0_; have BK101 := n1_; have GW101 := n2_; have GE101 := n3_; clear n0_ n1_ n2_ n3_; clear hb hbox hg) | ((with_reducible refine gate_callee (f := 4) rfl ?_); refine goesL_ (some 13) rfl rfl Try.func4 (by kernel_rfl) rfl #[.slice A0 l0.length c0] rfl (by (try simp only [List.map_toArray, List.map_cons, List.map_nil]); first | done | rfl | (simp only [List.length_drop, List.length_take]; rfl)) ?_; (with_reducible refine (dropperref07_Valid.calls k _ _ l0 false _ ?side1 ?side2 A3.out).mono ?_); (case side1 => repeat (first | exact (Kd.C_below HR0.out HB.out) | (with_reducible refine Kd.C_alloc ?_ _) | (with_reducible refine Kd.C_drewN ?_ _) | (with_reducible refine Kd.C_drew ?_))); (case side2 => exact HC0.out); rintro e w' ⟨rfl, ⟨nd, rfl⟩⟩; refine ⟨_, rfl, ?_⟩; (try (rw [drewN_self w30]; generalize hq_ : World.drewN w30 _ = w30; have n0_ : Aside0 (w30.heap[gb101]? = some (.cells #[.int .i64 0, .int .i64 0] 35 (0, 0))) := ⟨by rw [← hq_]; exact (bkU BK101)⟩; have n1_ : Aside0 (Below w.heap.size w w30) := ⟨by rw [← hq_]; exact (by repeat (first | (with_reducible first | exact HB.out | apply below_alloc | apply pw_below_drewN | apply below_drew1 | refine below_set ?_ GE101.out) | exact HB.out))⟩; clear BK101 HB hq_; have BK101 := n0_; have HB := n1_; clear n0_ n1_)); have hcz31_0 : w30.cell? ⟨gb101, 0, none⟩ = some (.int .i64 0) := (blk_cell BK101.out 0).trans rfl; have hcz31_1 : w30.cell? ⟨gb101, 1, none⟩ = some (.int .i64 0) := (blk_cell BK101.out 1).trans rfl; have hfz31_0 := blk_frozen BK101.out 0; have hfz31_1 := blk_frozen BK101.out 1))
    refine bodyPost_ret (results_ct rfl _ _ gb101 35 #[.int .i64 0, .int .i64 0] (0, 0) _ rfl (by (with_reducible repeat (first | refine blk_drewN ?_ _ | refine blk_drew ?_ | refine blk_alloc ?_ _)); refine blk_put (cs := #[.int .i64 0, .int .i64 0]) ?_ 1 _ rfl; (with_reducible repeat (first | refine blk_drewN ?_ _ | refine blk_drew ?_ | refine blk_alloc ?_ _)); refine blk_put (cs := #[.int .i64 0, .int .i64 0]) ?_ 0 _ rfl; (with_reducible repeat (first | refine blk_drewN ?_ _ | refine blk_drew ?_ | refine blk_alloc ?_ _)); exact BK101.out) Try.underlying35 rfl (by kernel_rfl)) rfl ?_
    exact ⟨by first | rfl | (simp [errW_none, errW_some] <;> rfl) | (simp [*, errW_none, errW_some] <;> rfl), by repeat (first | (with_reducible first | exact HB.out | apply below_alloc | apply pw_below_drewN | apply below_drew1 | refine below_set ?_ GE101.out) | exact HB.out)⟩
  subst c4
  have H1 : ((dropperref07_IsRow.f k l0 l1).bind fun t103 => (if t103 = true then (dropperref07_Error.l0 k l0 l1 1 0) else (some (0, 0, 2)))) = some (r1, r2, r3) := by rw [if_pos rfl] at H; exact H
  clear H
  have H := H1
  clear H1
  replace H := Option.bind_eq_some_iff.mp H
  obtain ⟨t103, A50, H⟩ := H
  replace H : (if t103 = true then (dropperref07_Error.l0 k l0 l1 1 0) else (some (0, 0, 2))) = some (r1, r2, r3) := H
  have A5 := Aside0.mk A50
  clear A50
  by_cases c6 : t103 = true
  rotate_left
  · replace c6 := Bool.eq_false_iff.mpr c6
    subst c6
    have H1 : (some (0, 0, 2)) = some (r1, r2, r3) := by rw [if_neg (show ¬ (false = true) by decide)] at H; exact H
    clear H
    have H := H1
    clear H1
    simp only [Option.some.injEq, Prod.mk.injEq] at H
    obtain ⟨rfl, rfl, rfl⟩ := H
    go_enter Try.func15, Try.ntmps15
    go_wp2_with (first | ((with_reducible refine gate_dst (N := 4) rfl ?_); refine box_event ?hg (N := 4) ?hd (cs := #[.int .i64 0, .int .i64 0]) (t := 35) ?hr ?_; (case hd => rfl); (case hg => rfl); (case hr => first | (go_simp; done) | (go_simp; rfl)); intro gb101 hg w27 hbox hb; have n0_ := Aside0.mk (below_step (by repeat (first | (with_reducible first | exact HB.out | apply below_alloc | apply pw_below_drewN | apply below_drew1) | exact HB.out)) hb); have n1_ := Aside0.mk (hbox); have n2_ := Aside0.mk ((by rw [hg]; exact (below_size (by repeat (first | (with_reducible first | exact HB.out | apply below_alloc | apply pw_below_drewN | apply below_drew1) | exact HB.out))) : w.heap.size ≤ gb101)); have n3_ := Aside0.mk ((by rw [hg]; exact (below_size (by repeat (first | (with_reducible first | exact HB.out | apply below_alloc | apply pw_below_drewN | apply below_drew1) | exact HB.out))) : w.heap.size ≤ gb101)); clear HB; have HB := n0_; have BK101 := n1_; have GW101 := n2_; have GE101 := n3_; clear n0_ n1_ n2_ n3_; clear hb hbox hg) | ((with_reducible refine gate_callee (f := 4) rfl ?_); refine goesL_ (some 13) rfl rfl Try.func4 (by kernel_rfl) rfl #[.slice A0 l0.length c0] rfl (by (try simp only [List.map_toArray, List.map_cons, List.map_nil]); first | done | rfl | (simp only [List.length_drop, List.length_take]; rfl)) ?_; (with_reducible refine (dropperref07_Valid.calls k _ _ l0 true _ ?side1 ?side2 A3.out).mono ?_); (case side1 => repeat (first | exact (Kd.C_below HR0.out HB.out) | (with_reducible refine Kd.C_alloc ?_ _) | (with_reducible refine Kd.C_drewN ?_ _) | (with_reducible refine Kd.C_drew ?_))); (case side2 => exact HC0.out); rintro e w' ⟨rfl, ⟨nd, rfl⟩⟩; refine ⟨_, rfl, ?_⟩; (try (rw [drewN_self w27]; generalize hq_ : World.drewN w27 _ = w27; have n0_ : Aside0 (w27.heap[gb101]? = some (.cells #[.int .i64 0, .int .i64 0] 35 (0, 0))) := ⟨by rw [← hq_]; exact (bkU BK101)⟩; have n1_ : Aside0 (Below w.heap.size w w27) := ⟨by rw [← hq_]; exact (by repeat (first | (with_reducible first | exact HB.out | apply below_alloc | apply pw_below_drewN | apply below_drew1 | refine below_set ?_ GE101.out) | exact HB.out))⟩; clear BK101 HB hq_; have BK101 := n0_; have HB := n1_; clear n0_ n1_))) | ((with_reducible refine gate_callee (f := 8) rfl ?_); refine goesL_ (some 19) rfl rfl Try.func8 (by kernel_rfl) rfl #[.slice A0 l0.length c0, .slice A1 l1.length c1] rfl (by (try simp only [List.map_toArray, List.map_cons, List.map_nil]); first | done | rfl | (simp only [List.length_drop, List.length_take]; rfl)) ?_; (with_reducible refine (dropperref07_IsRow.calls k _ _ l0 _ _ l1 false _ ?side1 ?side2 ?side3 ?side4 A5.out).mono ?_); (case side1 => repeat (first | exact (Kd.C_below HR0.out HB.out) | (with_reducible refine Kd.C_alloc ?_ _) | (with_reducible refine Kd.C_drewN ?_ _) | (with_reducible refine Kd.C_drew ?_))); (case side2 => exact HC0.out); (case side3 => repeat (first | exact (Kd.C_below HR1.out HB.out) | (with_reducible refine Kd.C_alloc ?_ _) | (with_reducible refine Kd.C_drewN ?_ _) | (with_reducible refine Kd.C_drew ?_))); (case side4 => exact HC1.out); rintro e w28 ⟨rfl, hb⟩; refine ⟨_, rfl, ?_⟩; have n0_ := Aside0.mk (bkB BK101 hb); have n1_ := Aside0.mk (below_step (by repeat (first | (with_reducible first | exact HB.out | apply below_alloc | apply pw_below_drewN | apply below_drew1 | refine below_set ?_ GE101.out) | exact HB.out)) hb); clear BK101; clear HB; have BK101 := n0_; have HB := n1_; clear n0_ n1_; (try clear hb); (try clear hb2); (try clear hk); (try clear hi); have hcz29_0 : w28.cell? ⟨gb101, 0, none⟩ = some (.int .i64 0) := (blk_cell BK101.out 0).trans rfl; have hcz29_1 : w28.cell? ⟨gb101, 1, none⟩ = some (.int .i64 0) := (blk_cell BK101.out 1).trans rfl; have hfz29_0 := blk_frozen BK101.out 0; have hfz29_1 := blk_frozen BK101.out 1))
    refine bodyPost_ret (results_ct rfl _ _ gb101 35 #[.int .i64 0, .int .i64 0] (0, 0) _ rfl (by (with_reducible repeat (first | refine blk_drewN ?_ _ | refine blk_drew ?_ | refine blk_alloc ?_ _)); refine blk_put (cs := #[.int .i64 0, .int .i64 0]) ?_ 1 _ rfl; (with_reducible repeat (first | refine blk_drewN ?_ _ | refine blk_drew ?_ | refine blk_alloc ?_ _)); refine blk_put (cs := #[.int .i64 0, .int .i64 0]) ?_ 0 _ rfl; (with_reducible repeat (first | refine blk_drewN ?_ _ | refine blk_drew ?_ | refine blk_alloc ?_ _)); exact BK101.out) Try.underlying35 rfl (by kernel_rfl)) rfl ?_
    exact ⟨by first | rfl | (simp [errW_none, errW_some] <;> rfl) | (simp [*, errW_none, errW_some] <;> rfl), by repeat (first | (with_reducible first | exact HB.out | apply below_alloc | apply pw_below_drewN | apply below_drew1 | refine below_set ?_ GE101.out) | exact HB.out)⟩
  subst c6
  have H1 : (dropperref07_Error.l0 k l0 l1 1 0) = some (r1, r2, r3) := by rw [if_pos rfl] at H; exact H
  clear H
  have H := H1
  clear H1
  have H' := Aside0.mk H
  clear H
  go_enter Try.func15, Try.ntmps15
  go_wp2_with (first | ((with_reducible refine gate_dst (N := 4) rfl ?_); refine box_event ?hg (N := 4) ?hd (cs := #[.int .i64 0, .int .i64 0]) (t := 35) ?hr ?_; (case hd => rfl); (case hg => rfl); (case hr => first | (go_simp; done) | (go_simp; rfl)); intro gb101 hg w7 hbox hb; have n0_ := Aside0.mk (below_step (by repeat (first | (with_reducible first | exact HB.out | apply below_alloc | apply pw_below_drewN | apply below_drew1) | exact HB.out)) hb); have n1_ := Aside0.mk (hbox); have n2_ := Aside0.mk ((by rw [hg]; exact (below_size (by repeat (first | (with_reducible first | exact HB.out | apply below_alloc | apply pw_below_drewN | apply below_drew1) | exact HB.out))) : w.heap.size ≤ gb101)); have n3_ := Aside0.mk ((by rw [hg]; exact (below_size (by repeat (first | (with_reducible first | exact HB.out | apply below_alloc | apply pw_below_drewN | apply below_drew1) | exact HB.out))) : w.heap.size ≤ gb101)); clear HB; have HB := n0_; have BK101 := n1_; have GW101 := n2_; have GE101 := n3_; clear n0_ n1_ n2_ n3_; clear hb hbox hg) | ((with_reducible refine gate_callee (f := 4) rfl ?_); refine goesL_ (some 13) rfl rfl Try.func4 (by kernel_rfl) rfl #[.slice A0 l0.length c0] rfl (by (try simp only [List.map_toArray, List.map_cons, List.map_nil]); first | done | rfl | (simp only [List.length_drop, List.length_take]; rfl)) ?_; (with_reducible refine (dropperref07_Valid.calls k _ _ l0 true _ ?side1 ?side2 A3.out).mono ?_); (case side1 => repeat (first | exact (Kd.C_below HR0.out HB.out) | (with_reducible refine Kd.C_alloc ?_ _) | (with_reducible refine Kd.C_drewN ?_ _) | (with_reducible refine Kd.C_drew ?_))); (case side2 => exact HC0.out); rintro e w' ⟨rfl, ⟨nd, rfl⟩⟩; refine ⟨_, rfl, ?_⟩) | ((with_reducible refine gate_callee (f := 8) rfl ?_); refine goesL_ (some 19) rfl rfl Try.func8 (by kernel_rfl) rfl #[.slice A0 l0.length c0, .slice A1 l1.length c1] rfl (by (try simp only [List.map_toArray, List.map_cons, List.map_nil]); first | done | rfl | (simp only [List.length_drop, List.length_take]; rfl)) ?_; (with_reducible refine (dropperref07_IsRow.calls k _ _ l0 _ _ l1 true _ ?side1 ?side2 ?side3 ?side4 A5.out).mono ?_); (case side1 => repeat (first | exact (Kd.C_below HR0.out (by repeat (first | (with_reducible first | exact HB.out | apply below_alloc | apply pw_below_drewN | apply below_drew1 | refine below_set ?_ GE101.out) | exact HB.out))) | (with_reducible refine Kd.C_alloc ?_ _) | (with_reducible refine Kd.C_drewN ?_ _) | (with_reducible refine Kd.C_drew ?_))); (case side2 => exact HC0.out); (case side3 => repeat (first | exact (Kd.C_below HR1.out (by repeat (first | (with_reducible first | exact HB.out | apply below_alloc | apply pw_below_drewN | apply below_drew1 | refine below_set ?_ GE101.out) | exact HB.out))) | (with_reducible refine Kd.C_alloc ?_ _) | (with_reducible refine Kd.C_drewN ?_ _) | (with_reducible refine Kd.C_drew ?_))); (case side4 => exact HC1.out); rintro e w8 ⟨rfl, hb⟩; refine ⟨_, rfl, ?_⟩; have n0_ := Aside0.mk (bkB BK101 hb); have n1_ := Aside0.mk (below_step (by repeat (first | (with_reducible first | exact HB.out | apply below_alloc | apply pw_below_drewN | apply below_drew1 | refine below_set ?_ GE101.out) | exact HB.out)) hb); clear BK101; clear HB; have BK101 := n0_; have HB := n1_; clear n0_ n1_; (try clear hb); (try clear hb2); (try clear hk); (try clear hi)))
  go_loopg [6, 7] k (fun kq v6 v7 w' => ∃ (x6_1 : Int) (x7_1 : Int) (x102000_1 : Int) (x102001_1 : Int), v6 = .int .i64 x6_1 ∧ v7 = .int .i64 x7_1 ∧ Aside0 (dropperref07_Error.l0 kq l0 l1 x6_1 x7_1 = some (r1, r2, r3)) ∧ Aside0 (kq ≤ k) ∧ Aside0 (w'.heap[gb101]? = some (.cells #[.int .i64 x102000_1, .int .i64 x102001_1] 35 (0, 0))) ∧ Aside0 (Below w.heap.size w w'))
  case atStart => exact ⟨(1), (0), (0), (0), (by first | rfl | (simp; done) | (simp [*]; done)), (by first | rfl | (simp; done) | (simp [*]; done)), H', ⟨Nat.le_refl _⟩, ⟨bkU BK101⟩, ⟨by repeat (first | (with_reducible first | exact HB.out | apply below_alloc | apply pw_below_drewN | apply below_drew1 | refine below_set ?_ GE101.out) | exact HB.out)⟩⟩
  case round =>
    clear H'
    try clear c1
    try clear p2
    try clear c4
    try clear c6
    try clear c8
    obtain ⟨x6_1, x7_1, x102000_1, x102001_1, rfl, rfl, HA, HK1, BK101, HB⟩ := hrel
    cases gk with
    | zero => exact absurd HA.out (by simp [dropperref07_Error.l0])
    | succ k1 =>
      have H := HA.out
      clear HA
      simp only [dropperref07_Error.l0] at H
      by_cases c9 : x7_1 < (l1.length : Int)
      rotate_left
      · rw [if_neg c9] at H
        have c9b0 : decide (x7_1 < (l1.length : Int)) = false := decide_eq_false c9
        clear c9
        have H' := Aside0.mk H
        clear H
        go_wp2
        go_loopg [8, 9] k1 (fun kq v8 v9 w' => ∃ (x8_2 : Int) (x9_2 : Int), v8 = .int .i64 x8_2 ∧ v9 = .int .i64 x9_2 ∧ Aside0 (dropperref07_Error.l1 kq l0 l1 x6_1 x8_2 x9_2 = some (r1, r2, r3)) ∧ Aside0 (kq ≤ k1) ∧ Aside0 (w'.heap[gb101]? = some (.cells #[.int .i64 x102000_1, .int .i64 x102001_1] 35 (0, 0))) ∧ Aside0 (Below w.heap.size w w'))
        case atStart => exact ⟨(0), (0), (by first | rfl | (simp; done) | (simp [*]; done)), (by first | rfl | (simp; done) | (simp [*]; done)), H', ⟨Nat.le_refl _⟩, ⟨bkU BK101⟩, ⟨by repeat (first | (with_reducible first | exact HB.out | apply below_alloc | apply pw_below_drewN | apply below_drew1 | refine below_set ?_ GE101.out) | exact HB.out)⟩⟩
        case round =>
          clear H'
          try clear c1
          try clear p1
          try clear q1
          try clear hx1
          try clear p2
          try clear c3
          try clear c4
          try clear c6
          try clear p6
          try clear c8
          try clear c9
          try clear c9b0
          try clear c10
          try clear c10b0
          try clear p10
          try clear q10
          try clear hx10
          try clear c12
          try clear c12b0
          try clear c12b1
          try clear c13
          try clear c13b0
          try clear c15
          try clear hcz16_0
          try clear hcz16_1
          try clear hfz16_0
          try clear hfz16_1
          try clear hx104_0
          try clear hx104_1
          try clear hx106_0
          try clear hx106_1
          try clear p104
          try clear p106
          try clear p2
          try clear q104
          try clear q106
          obtain ⟨x8_2, x9_2, rfl, rfl, HA, HK2, BK101, HB⟩ := hrel
          cases gk with
          | zero => exact absurd HA.out (by simp [dropperref07_Error.l1])
          | succ k2 =>
            have H := HA.out
            clear HA
            simp only [dropperref07_Error.l1] at H
            by_cases c19 : x9_2 < (l1.length : Int)
            rotate_left
            · rw [if_neg c19] at H
              have c19b0 : decide (x9_2 < (l1.length : Int)) = false := decide_eq_false c19
              clear c19
              replace H := Option.bind_eq_some_iff.mp H
              obtain ⟨⟨t110, t111⟩, A240, H⟩ := H
              replace H : (some (t110, t111, 0)) = some (r1, r2, r3) := H
              have A24 := Aside0.mk A240
              clear A240
              simp only [Option.some.injEq, Prod.mk.injEq] at H
              obtain ⟨rfl, rfl, rfl⟩ := H
              go_wp2_with (first | ((with_reducible refine gate_callee (f := 33) rfl ?_); refine goesL_ (some 81) rfl rfl Try.func33 (by kernel_rfl) rfl #[.int .i64 x8_2, .int .i64 (wrap64 (x6_1 * x6_1))] rfl (by (try simp only [List.map_toArray, List.map_cons, List.map_nil]); first | done | rfl | (simp only [List.length_drop, List.length_take]; rfl)) ?_; (with_reducible refine (dropperref07_ratio.calls k2 x8_2 (wrap64 (x6_1 * x6_1)) t110 t111 _ A24.out).mono ?_); rintro e w25 ⟨rfl, hb⟩; refine ⟨_, rfl, ?_⟩; have n0_ := Aside0.mk (bkB BK101 hb); have n1_ := Aside0.mk (below_step (by repeat (first | (with_reducible first | exact HB.out | apply below_alloc | apply pw_below_drewN | apply below_drew1 | refine below_set ?_ GE101.out) | exact HB.out)) hb); clear BK101; clear HB; have BK101 := n0_; have HB := n1_; clear n0_ n1_; (try clear hb); (try clear hb2); (try clear hk); (try clear hi); have hcz26_0 : w25.cell? ⟨gb101, 0, none⟩ = some (.int .i64 x102000_1) := (blk_cell BK101.out 0).trans rfl; have hcz26_1 : w25.cell? ⟨gb101, 1, none⟩ = some (.int .i64 x102001_1) := (blk_cell BK101.out 1).trans rfl; have hfz26_0 := blk_frozen BK101.out 0; have hfz26_1 := blk_frozen BK101.out 1))
              refine bodyPost_ret (results_ct rfl _ _ gb101 35 #[.int .i64 t110, .int .i64 t111] (0, 0) _ rfl (by (with_reducible repeat (first | refine blk_drewN ?_ _ | refine blk_drew ?_ | refine blk_alloc ?_ _)); refine blk_put (cs := #[.int .i64 t110, .int .i64 x102001_1]) ?_ 1 _ rfl; (with_reducible repeat (first | refine blk_drewN ?_ _ | refine blk_drew ?_ | refine blk_alloc ?_ _)); refine blk_put (cs := #[.int .i64 x102000_1, .int .i64 x102001_1]) ?_ 0 _ rfl; (with_reducible repeat (first | refine blk_drewN ?_ _ | refine blk_drew ?_ | refine blk_alloc ?_ _)); exact BK101.out) Try.underlying35 rfl (by kernel_rfl)) rfl ?_
              exact ⟨by first | rfl | (simp [errW_none, errW_some] <;> rfl) | (simp [*, errW_none, errW_some] <;> rfl), by repeat (first | (with_reducible first | exact HB.out | apply below_alloc | apply pw_below_drewN | apply below_drew1 | refine below_set ?_ GE101.out) | exact HB.out)⟩
            rw [if_pos c19] at H
            have c19b0 : decide (x9_2 < (l1.length : Int)) = true := decide_eq_true c19
            clear c19
            by_cases c20 : 0 ≤ x9_2
            rotate_left
            · rw [if_neg c20] at H
              exact absurd H (by simp)
            rw [if_pos c20] at H
            have c20b0 : decide (0 ≤ x9_2) = true := decide_eq_true c20
            clear c20
            by_cases c21 : ((rd_T35 l1 x9_2).f1) = 0
            · rw [if_pos c21] at H
              exact absurd H (by simp)
            rw [if_neg c21] at H
            have c21b0 : (((rd_T35 l1 x9_2).f1) == 0) = false := beq_eq_false_iff_ne.mpr c21
            have c21b1 : (((rd_T35 l1 x9_2).f1) != 0) = true := bne_iff_ne.mpr c21
            by_cases c22 : x9_2 < (l0.length : Int)
            rotate_left
            · rw [if_neg c22] at H
              exact absurd H (by simp)
            rw [if_pos c22] at H
            have c22b0 : decide (x9_2 < (l0.length : Int)) = true := decide_eq_true c22
            clear c22
            have H' := Aside0.mk H
            clear H
            try go_wp2
            have n0_ := Aside0.mk (blk_drew BK101.out)
            have n1_ := Aside0.mk (below_drew1 HB.out)
            clear BK101
            clear HB
            have BK101 := n0_
            have HB := n1_
            clear n0_ n1_
            have p107 : 0 ≤ (x9_2 : Int) := of_decide_eq_true (by first | (with_reducible assumption) | assumption)
            have q107 : x9_2 < (l1.length : Int) := of_decide_eq_true (by first | (with_reducible assumption) | assumption)
            obtain ⟨ad107, e107, hx107_0, hx107_1⟩ := at_T35 HR1.out x9_2 p107 q107
            have hw107_1 := hx107_1
            have hw107_0 := hx107_0
            cases e107
            replace hx107_0 := (HB.out.cell (World.block_lt_of_cell? w _ hx107_0)).trans hx107_0
            replace hx107_1 := (HB.out.cell (World.block_lt_of_cell? w _ hx107_1)).trans hx107_1
            replace p107 := eq_true p107
            replace q107 := eq_true q107
            have p108 : 0 ≤ (x9_2 : Int) := of_decide_eq_true (by first | (with_reducible assumption) | assumption)
            have q108 : x9_2 < (l1.length : Int) := of_decide_eq_true (by first | (with_reducible assumption) | assumption)
            obtain ⟨ad108, e108, hx108_0, hx108_1⟩ := at_T35 HR1.out x9_2 p108 q108
            have hw108_1 := hx108_1
            have hw108_0 := hx108_0
            obtain rfl : ad107 = ad108 := (by injection e108)
            replace hx108_0 := (HB.out.cell (World.block_lt_of_cell? w _ hx108_0)).trans hx108_0
            replace hx108_1 := (HB.out.cell (World.block_lt_of_cell? w _ hx108_1)).trans hx108_1
            replace p108 := eq_true p108
            replace q108 := eq_true q108
            have p109 : 0 ≤ (x9_2 : Int) := of_decide_eq_true (by first | (with_reducible assumption) | assumption)
            have q109 : x9_2 < (l0.length : Int) := of_decide_eq_true (by first | (with_reducible assumption) | assumption)
            obtain ⟨ad109, e109, hx109_0⟩ := Kd.at_int HR0.out x9_2 p109 q109
            have hw109_0 := hx109_0
            cases e109
            replace hx109_0 := (HB.out.cell (World.block_lt_of_cell? w _ hx109_0)).trans hx109_0
            replace p109 := eq_true p109
            replace q109 := eq_true q109
            refine start_ (n := 21) (S := fun w' => w'.cell? (ad107.add ((x9_2).toNat * 2)) = some (.int .i64 ((rd_T35 l1 x9_2).f0)) ∧ w'.cell? ⟨(ad107.add ((x9_2).toNat * 2)).block, (ad107.add ((x9_2).toNat * 2)).off + 1, none⟩ = some (.int .i64 ((rd_T35 l1 x9_2).f1)) ∧ w'.cell? (ad107.add ((x9_2).toNat * 2)) = some (.int .i64 ((rd_T35 l1 x9_2).f0)) ∧ w'.cell? ⟨(ad107.add ((x9_2).toNat * 2)).block, (ad107.add ((x9_2).toNat * 2)).off + 1, none⟩ = some (.int .i64 ((rd_T35 l1 x9_2).f1)) ∧ w'.cell? (ad109.add (x9_2).toNat) = some (.int .i64 (rd l0 x9_2))) (ds := []) (mkB 21 0) (by kernel_rfl) rfl rfl ⟨(pw_cell_below HB.out hw107_0), (pw_cell_below HB.out hw107_1), (pw_cell_below HB.out hw108_0), (pw_cell_below HB.out hw108_1), (pw_cell_below HB.out hw109_0)⟩ (fun hHeld => ?_); refine with_tabW dropperref07_Error.tab16 dropperref07_Error.bits16 (fun HT_ HW_ => ?_)
            generalize wr.drew = w23 at BK101 HB hx107_0 hx107_1 hx108_0 hx108_1 hx109_0 hHeld ⊢
            refine pr_ 0 (some 52) (mkB 21 1) HT_ ?_
            refine pr_ 1 (some 53) (mkB 21 3) HT_ ?_
            refine pr_ 2 (some 54) (mkB 21 7) HT_ ?_
            refine pr_ 3 (some 55) (mkB 21 15) HT_ ?_
            refine pr_ 5 (some 57) (mkB 21 47) HT_ ?_
            refine pr_ 6 (some 58) (mkB 21 111) HT_ ?_
            refine pr_ 7 (some 59) (mkB 21 239) HT_ ?_
            refine pr_ 8 (some 60) (mkB 21 495) HT_ ?_
            refine pr_ 9 (some 61) (mkB 21 1007) HT_ ?_
            refine pr_ 13 (some 65) (mkB 21 9199) HT_ ?_
            refine pr_ 14 (some 66) (mkB 21 25583) HT_ ?_
            refine pr_ 15 (some 67) (mkB 21 58351) HT_ ?_
            refine pr_ 17 (some 69) (mkB 21 189423) HT_ ?_
            refine take_ (i := 4) (N := some 56) (v := ?_) (a' := ?_) (mkB 21 189439) rfl rfl (take_ofW HT_.out HW_.out (by kernel_rfl)) (fun _ _ _ h => h) (Or.inl ⟨by rfl, ?_⟩) hHeld ?_ ?_
            rotate_left
            · rintro w' ⟨s0, s1, s2, s3, s4⟩
              go_simp
              with_reducible rfl
            rotate_left
            · simp only [Act.put, List.setIfInBounds_toArray, List.set_cons_zero, List.set_cons_succ, i64_w, i32_w]
              rfl
            refine take_ (i := 10) (N := some 62) (v := ?_) (a' := ?_) (mkB 21 190463) rfl rfl (take_ofW HT_.out HW_.out (by kernel_rfl)) (fun _ _ _ h => h) (Or.inl ⟨by rfl, ?_⟩) hHeld ?_ ?_
            rotate_left
            · rintro w' ⟨s0, s1, s2, s3, s4⟩
              go_simp
              with_reducible rfl
            rotate_left
            · simp only [Act.put, List.setIfInBounds_toArray, List.set_cons_zero, List.set_cons_succ, i64_w, i32_w]
              rfl
            refine pr_ 11 (some 63) (mkB 21 192511) HT_ ?_
            refine pr_ 12 (some 64) (mkB 21 196607) HT_ ?_
            refine take_ (i := 16) (N := some 68) (v := ?_) (a' := ?_) (mkB 21 262143) rfl rfl (take_ofW HT_.out HW_.out (by kernel_rfl)) (fun _ _ _ h => h) (Or.inl ⟨by rfl, ?_⟩) hHeld ?_ ?_
            rotate_left
            · rintro w' ⟨s0, s1, s2, s3, s4⟩
              go_simp
              with_reducible rfl
            rotate_left
            · simp only [Act.put, List.setIfInBounds_toArray, List.set_cons_zero, List.set_cons_succ, i64_w, i32_w]
              rfl
            refine pr_ 18 (some 70) (mkB 21 524287) HT_ ?_
            refine pr_ 19 (some 71) (mkB 21 1048575) HT_ ?_
            refine pr_ 20 (some 10) (mkB 21 2097151) HT_ ?_
            refine done_ (done_of HT_.out (by kernel_rfl)) ?_
            try go_wp2
            go_roundg k2
            case measure => have := HK1.out; have := HK2.out; omega
            case rel => exact ⟨(wrap64 (x8_2 + (wrap64 ((wrap64 ((wrap64 (((rd_T35 l1 x9_2).f0) * (wrap64 (Int.tdiv x6_1 ((rd_T35 l1 x9_2).f1))))) - (wrap64 ((rd l0 x9_2) * x6_1)))) * (wrap64 ((wrap64 (((rd_T35 l1 x9_2).f0) * (wrap64 (Int.tdiv x6_1 ((rd_T35 l1 x9_2).f1))))) - (wrap64 ((rd l0 x9_2) * x6_1)))))))), (wrap64 (x9_2 + 1)), (by first | rfl | (simp; done) | (simp [*]; done)), (by first | rfl | (simp; done) | (simp [*]; done)), H', ⟨by have := HK1.out; have := HK2.out; omega⟩, ⟨bkU BK101⟩, ⟨by repeat (first | (with_reducible first | exact HB.out | apply below_alloc | apply pw_below_drewN | apply below_drew1 | refine below_set ?_ GE101.out) | exact HB.out)⟩⟩
      rw [if_pos c9] at H
      have c9b0 : decide (x7_1 < (l1.length : Int)) = true := decide_eq_true c9
      clear c9
      by_cases c10 : 0 ≤ x7_1
      rotate_left
      · rw [if_neg c10] at H
        exact absurd H (by simp)
      rw [if_pos c10] at H
      have c10b0 : decide (0 ≤ x7_1) = true := decide_eq_true c10
      clear c10
      replace H := Option.bind_eq_some_iff.mp H
      obtain ⟨t105, A110, H⟩ := H
      replace H : (if t105 = 0 then (none) else (if (wrap64 ((wrap64 (Int.tdiv x6_1 t105)) * ((rd_T35 l1 x7_1).f1))) > 10000 then (some (0, 0, 4)) else (dropperref07_Error.l0 k1 l0 l1 (wrap64 ((wrap64 (Int.tdiv x6_1 t105)) * ((rd_T35 l1 x7_1).f1))) (wrap64 (x7_1 + 1))))) = some (r1, r2, r3) := H
      have A11 := Aside0.mk A110
      clear A110
      by_cases c12 : t105 = 0
      · rw [if_pos c12] at H
        exact absurd H (by simp)
      rw [if_neg c12] at H
      have c12b0 : (t105 == 0) = false := beq_eq_false_iff_ne.mpr c12
      have c12b1 : (t105 != 0) = true := bne_iff_ne.mpr c12
      by_cases c13 : (wrap64 ((wrap64 (Int.tdiv x6_1 t105)) * ((rd_T35 l1 x7_1).f1))) > 10000
      rotate_left
      · rw [if_neg c13] at H
        have c13b0 : decide (10000 < (wrap64 ((wrap64 (Int.tdiv x6_1 t105)) * ((rd_T35 l1 x7_1).f1)))) = false := decide_eq_false c13
        clear c13
        have H' := Aside0.mk H
        clear H
        try go_wp2
        have n0_ := Aside0.mk (blk_drew BK101.out)
        have n1_ := Aside0.mk (below_drew1 HB.out)
        clear BK101
        clear HB
        have BK101 := n0_
        have HB := n1_
        clear n0_ n1_
        have p104 : 0 ≤ (x7_1 : Int) := of_decide_eq_true (by first | (with_reducible assumption) | assumption)
        have q104 : x7_1 < (l1.length : Int) := of_decide_eq_true (by first | (with_reducible assumption) | assumption)
        obtain ⟨ad104, e104, hx104_0, hx104_1⟩ := at_T35 HR1.out x7_1 p104 q104
        have hw104_1 := hx104_1
        have hw104_0 := hx104_0
        cases e104
        replace hx104_0 := (HB.out.cell (World.block_lt_of_cell? w _ hx104_0)).trans hx104_0
        replace hx104_1 := (HB.out.cell (World.block_lt_of_cell? w _ hx104_1)).trans hx104_1
        replace p104 := eq_true p104
        replace q104 := eq_true q104
        have p106 : 0 ≤ (x7_1 : Int) := of_decide_eq_true (by first | (with_reducible assumption) | assumption)
        have q106 : x7_1 < (l1.length : Int) := of_decide_eq_true (by first | (with_reducible assumption) | assumption)
        obtain ⟨ad106, e106, hx106_0, hx106_1⟩ := at_T35 HR1.out x7_1 p106 q106
        have hw106_1 := hx106_1
        have hw106_0 := hx106_0
        obtain rfl : ad104 = ad106 := (by injection e106)
        replace hx106_0 := (HB.out.cell (World.block_lt_of_cell? w _ hx106_0)).trans hx106_0
        replace hx106_1 := (HB.out.cell (World.block_lt_of_cell? w _ hx106_1)).trans hx106_1
        replace p106 := eq_true p106
        replace q106 := eq_true q106
        refine start_ (n := 16) (S := fun w' => w'.cell? (ad104.add ((x7_1).toNat * 2)) = some (.int .i64 ((rd_T35 l1 x7_1).f0)) ∧ w'.cell? ⟨(ad104.add ((x7_1).toNat * 2)).block, (ad104.add ((x7_1).toNat * 2)).off + 1, none⟩ = some (.int .i64 ((rd_T35 l1 x7_1).f1)) ∧ w'.cell? (ad104.add ((x7_1).toNat * 2)) = some (.int .i64 ((rd_T35 l1 x7_1).f0)) ∧ w'.cell? ⟨(ad104.add ((x7_1).toNat * 2)).block, (ad104.add ((x7_1).toNat * 2)).off + 1, none⟩ = some (.int .i64 ((rd_T35 l1 x7_1).f1))) (ds := []) (mkB 16 0) (by kernel_rfl) rfl rfl ⟨(pw_cell_below HB.out hw104_0), (pw_cell_below HB.out hw104_1), (pw_cell_below HB.out hw106_0), (pw_cell_below HB.out hw106_1)⟩ (fun hHeld => ?_); refine with_tabW dropperref07_Error.tab9 dropperref07_Error.bits9 (fun HT_ HW_ => ?_)
        generalize wr.drew = w17 at BK101 HB hx104_0 hx104_1 hx106_0 hx106_1 hHeld ⊢
        refine pr_ 0 (some 28) (mkB 16 1) HT_ ?_
        refine pr_ 1 (some 29) (mkB 16 3) HT_ ?_
        refine pr_ 2 (some 30) (mkB 16 7) HT_ ?_
        refine pr_ 3 (some 31) (mkB 16 15) HT_ ?_
        refine pr_ 4 (some 32) (mkB 16 31) HT_ ?_
        refine pr_ 5 (some 33) (mkB 16 63) HT_ ?_
        refine pr_ 9 (some 37) (mkB 16 575) HT_ ?_
        refine pr_ 10 (some 38) (mkB 16 1599) HT_ ?_
        refine pr_ 11 (some 39) (mkB 16 3647) HT_ ?_
        refine pr_ 12 (some 40) (mkB 16 7743) HT_ ?_
        refine take_ (i := 6) (N := some 34) (v := ?_) (a' := ?_) (mkB 16 7807) rfl rfl (take_ofW HT_.out HW_.out (by kernel_rfl)) (fun _ _ _ h => h) (Or.inl ⟨by rfl, ?_⟩) hHeld ?_ ?_
        rotate_left
        · rintro w' ⟨s0, s1, s2, s3⟩
          go_simp
          with_reducible rfl
        rotate_left
        · simp only [Act.put, List.setIfInBounds_toArray, List.set_cons_zero, List.set_cons_succ, i64_w, i32_w]
          rfl
        refine take_ (i := 13) (N := some 41) (v := ?_) (a' := ?_) (mkB 16 15999) rfl rfl (take_ofW HT_.out HW_.out (by kernel_rfl)) (fun _ _ _ h => h) (Or.inl ⟨by rfl, ?_⟩) hHeld ?_ ?_
        rotate_left
        · rintro w' ⟨s0, s1, s2, s3⟩
          go_simp
          with_reducible rfl
        rotate_left
        · simp only [Act.put, List.setIfInBounds_toArray, List.set_cons_zero, List.set_cons_succ, i64_w, i32_w]
          rfl
        refine one_ (i := 7) (N := some 35) (mkB 16 16127) rfl rfl (one_of HT_.out (by kernel_rfl)) (by decide) (fun K hK => ?_)
        refine goes_ Try.func32 (by kernel_rfl) rfl #[.int .i64 x6_1, .int .i64 ((rd_T35 l1 x7_1).f1)] (by rfl) rfl rfl (by (try simp only [List.map_toArray, List.map_cons, List.map_nil]); first | done | rfl | (simp only [List.length_drop, List.length_take]; rfl)) ?_
        with_reducible refine (dropperref07_divisor.calls k1 x6_1 ((rd_T35 l1 x7_1).f1) t105 _ A11.out).mono ?_
        rintro e w18 ⟨rfl, hb⟩
        refine ⟨_, rfl, ?_⟩
        have n0_ := Aside0.mk (bkB BK101 hb)
        have n1_ := Aside0.mk (below_step (by repeat (first | (with_reducible first | exact HB.out | apply below_alloc | apply pw_below_drewN | apply below_drew1 | refine below_set ?_ GE101.out) | exact HB.out)) hb)
        clear BK101
        clear HB
        have BK101 := n0_
        have HB := n1_
        clear n0_ n1_
        (try clear hb)
        (try clear hb2)
        (try clear hk)
        (try clear hi)
        refine hK.out _ _ ⟨(pw_cell_below HB.out hw104_0), (pw_cell_below HB.out hw104_1), (pw_cell_below HB.out hw106_0), (pw_cell_below HB.out hw106_1)⟩ (fun hHeld => ?_)
        clear hK K
        refine norm_ (a' := ?_) ?_ ?_
        rotate_left
        · show Act.put _ (some 35) _ = _
          simp only [Act.put, List.setIfInBounds_toArray, List.set_cons_zero, List.set_cons_succ, i64_w, i32_w]
          rfl
        refine pr_ 8 (some 36) (mkB 16 16383) HT_ ?_
        refine pr_ 14 (some 42) (mkB 16 32767) HT_ ?_
        refine pr_ 15 (some 6) (mkB 16 65535) HT_ ?_
        refine done_ (done_of HT_.out (by kernel_rfl)) ?_
        try go_wp2
        go_roundg k1
        case measure => have := HK1.out; omega
        case rel => exact ⟨(wrap64 ((wrap64 (Int.tdiv x6_1 t105)) * ((rd_T35 l1 x7_1).f1))), (wrap64 (x7_1 + 1)), (x102000_1), (x102001_1), (by first | rfl | (simp; done) | (simp [*]; done)), (by first | rfl | (simp; done) | (simp [*]; done)), H', ⟨by have := HK1.out; omega⟩, ⟨bkU BK101⟩, ⟨by repeat (first | (with_reducible first | exact HB.out | apply below_alloc | apply pw_below_drewN | apply below_drew1 | refine below_set ?_ GE101.out) | exact HB.out)⟩⟩
      rw [if_pos c13] at H
      have c13b0 : decide (10000 < (wrap64 ((wrap64 (Int.tdiv x6_1 t105)) * ((rd_T35 l1 x7_1).f1)))) = true := decide_eq_true c13
      clear c13
      simp only [Option.some.injEq, Prod.mk.injEq] at H
      obtain ⟨rfl, rfl, rfl⟩ := H
      try go_wp2
      have n0_ := Aside0.mk (blk_drew BK101.out)
      have n1_ := Aside0.mk (below_drew1 HB.out)
      clear BK101
      clear HB
      have BK101 := n0_
      have HB := n1_
      clear n0_ n1_
      have p104 : 0 ≤ (x7_1 : Int) := of_decide_eq_true (by first | (with_reducible assumption) | assumption)
      have q104 : x7_1 < (l1.length : Int) := of_decide_eq_true (by first | (with_reducible assumption) | assumption)
      obtain ⟨ad104, e104, hx104_0, hx104_1⟩ := at_T35 HR1.out x7_1 p104 q104
      have hw104_1 := hx104_1
      have hw104_0 := hx104_0
      cases e104
      replace hx104_0 := (HB.out.cell (World.block_lt_of_cell? w _ hx104_0)).trans hx104_0
      replace hx104_1 := (HB.out.cell (World.block_lt_of_cell? w _ hx104_1)).trans hx104_1
      replace p104 := eq_true p104
      replace q104 := eq_true q104
      have p106 : 0 ≤ (x7_1 : Int) := of_decide_eq_true (by first | (with_reducible assumption) | assumption)
      have q106 : x7_1 < (l1.length : Int) := of_decide_eq_true (by first | (with_reducible assumption) | assumption)
      obtain ⟨ad106, e106, hx106_0, hx106_1⟩ := at_T35 HR1.out x7_1 p106 q106
      have hw106_1 := hx106_1
      have hw106_0 := hx106_0
      obtain rfl : ad104 = ad106 := (by injection e106)
      replace hx106_0 := (HB.out.cell (World.block_lt_of_cell? w _ hx106_0)).trans hx106_0
      replace hx106_1 := (HB.out.cell (World.block_lt_of_cell? w _ hx106_1)).trans hx106_1
      replace p106 := eq_true p106
      replace q106 := eq_true q106
      refine start_ (n := 16) (S := fun w' => w'.cell? (ad104.add ((x7_1).toNat * 2)) = some (.int .i64 ((rd_T35 l1 x7_1).f0)) ∧ w'.cell? ⟨(ad104.add ((x7_1).toNat * 2)).block, (ad104.add ((x7_1).toNat * 2)).off + 1, none⟩ = some (.int .i64 ((rd_T35 l1 x7_1).f1)) ∧ w'.cell? (ad104.add ((x7_1).toNat * 2)) = some (.int .i64 ((rd_T35 l1 x7_1).f0)) ∧ w'.cell? ⟨(ad104.add ((x7_1).toNat * 2)).block, (ad104.add ((x7_1).toNat * 2)).off + 1, none⟩ = some (.int .i64 ((rd_T35 l1 x7_1).f1))) (ds := []) (mkB 16 0) (by kernel_rfl) rfl rfl ⟨(pw_cell_below HB.out hw104_0), (pw_cell_below HB.out hw104_1), (pw_cell_below HB.out hw106_0), (pw_cell_below HB.out hw106_1)⟩ (fun hHeld => ?_); refine with_tabW dropperref07_Error.tab9 dropperref07_Error.bits9 (fun HT_ HW_ => ?_)
      generalize wr.drew = w14 at BK101 HB hx104_0 hx104_1 hx106_0 hx106_1 hHeld ⊢
      refine pr_ 0 (some 28) (mkB 16 1) HT_ ?_
      refine pr_ 1 (some 29) (mkB 16 3) HT_ ?_
      refine pr_ 2 (some 30) (mkB 16 7) HT_ ?_
      refine pr_ 3 (some 31) (mkB 16 15) HT_ ?_
      refine pr_ 4 (some 32) (mkB 16 31) HT_ ?_
      refine pr_ 5 (some 33) (mkB 16 63) HT_ ?_
      refine pr_ 9 (some 37) (mkB 16 575) HT_ ?_
      refine pr_ 10 (some 38) (mkB 16 1599) HT_ ?_
      refine pr_ 11 (some 39) (mkB 16 3647) HT_ ?_
      refine pr_ 12 (some 40) (mkB 16 7743) HT_ ?_
      refine take_ (i := 6) (N := some 34) (v := ?_) (a' := ?_) (mkB 16 7807) rfl rfl (take_ofW HT_.out HW_.out (by kernel_rfl)) (fun _ _ _ h => h) (Or.inl ⟨by rfl, ?_⟩) hHeld ?_ ?_
      rotate_left
      · rintro w' ⟨s0, s1, s2, s3⟩
        go_simp
        with_reducible rfl
      rotate_left
      · simp only [Act.put, List.setIfInBounds_toArray, List.set_cons_zero, List.set_cons_succ, i64_w, i32_w]
        rfl
      refine take_ (i := 13) (N := some 41) (v := ?_) (a' := ?_) (mkB 16 15999) rfl rfl (take_ofW HT_.out HW_.out (by kernel_rfl)) (fun _ _ _ h => h) (Or.inl ⟨by rfl, ?_⟩) hHeld ?_ ?_
      rotate_left
      · rintro w' ⟨s0, s1, s2, s3⟩
        go_simp
        with_reducible rfl
      rotate_left
      · simp only [Act.put, List.setIfInBounds_toArray, List.set_cons_zero, List.set_cons_succ, i64_w, i32_w]
        rfl
      refine one_ (i := 7) (N := some 35) (mkB 16 16127) rfl rfl (one_of HT_.out (by kernel_rfl)) (by decide) (fun K hK => ?_)
      refine goes_ Try.func32 (by kernel_rfl) rfl #[.int .i64 x6_1, .int .i64 ((rd_T35 l1 x7_1).f1)] (by rfl) rfl rfl (by (try simp only [List.map_toArray, List.map_cons, List.map_nil]); first | done | rfl | (simp only [List.length_drop, List.length_take]; rfl)) ?_
      with_reducible refine (dropperref07_divisor.calls k1 x6_1 ((rd_T35 l1 x7_1).f1) t105 _ A11.out).mono ?_
      rintro e w15 ⟨rfl, hb⟩
      refine ⟨_, rfl, ?_⟩
      have n0_ := Aside0.mk (bkB BK101 hb)
      have n1_ := Aside0.mk (below_step (by repeat (first | (with_reducible first | exact HB.out | apply below_alloc | apply pw_below_drewN | apply below_drew1 | refine below_set ?_ GE101.out) | exact HB.out)) hb)
      clear BK101
      clear HB
      have BK101 := n0_
      have HB := n1_
      clear n0_ n1_
      (try clear hb)
      (try clear hb2)
      (try clear hk)
      (try clear hi)
      refine hK.out _ _ ⟨(pw_cell_below HB.out hw104_0), (pw_cell_below HB.out hw104_1), (pw_cell_below HB.out hw106_0), (pw_cell_below HB.out hw106_1)⟩ (fun hHeld => ?_)
      clear hK K
      refine norm_ (a' := ?_) ?_ ?_
      rotate_left
      · show Act.put _ (some 35) _ = _
        simp only [Act.put, List.setIfInBounds_toArray, List.set_cons_zero, List.set_cons_succ, i64_w, i32_w]
        rfl
      refine pr_ 8 (some 36) (mkB 16 16383) HT_ ?_
      refine pr_ 14 (some 42) (mkB 16 32767) HT_ ?_
      refine pr_ 15 (some 6) (mkB 16 65535) HT_ ?_
      refine done_ (done_of HT_.out (by kernel_rfl)) ?_
      have hcz16_0 : w15.cell? ⟨gb101, 0, none⟩ = some (.int .i64 x102000_1) := (blk_cell BK101.out 0).trans rfl
      have hcz16_1 : w15.cell? ⟨gb101, 1, none⟩ = some (.int .i64 x102001_1) := (blk_cell BK101.out 1).trans rfl
      have hfz16_0 := blk_frozen BK101.out 0
      have hfz16_1 := blk_frozen BK101.out 1
      try go_wp2
      refine bodyPost_ret (results_ct rfl _ _ gb101 35 #[.int .i64 0, .int .i64 0] (0, 0) _ rfl (by (with_reducible repeat (first | refine blk_drewN ?_ _ | refine blk_drew ?_ | refine blk_alloc ?_ _)); refine blk_put (cs := #[.int .i64 0, .int .i64 x102001_1]) ?_ 1 _ rfl; (with_reducible repeat (first | refine blk_drewN ?_ _ | refine blk_drew ?_ | refine blk_alloc ?_ _)); refine blk_put (cs := #[.int .i64 x102000_1, .int .i64 x102001_1]) ?_ 0 _ rfl; (with_reducible repeat (first | refine blk_drewN ?_ _ | refine blk_drew ?_ | refine blk_alloc ?_ _)); exact BK101.out) Try.underlying35 rfl (by kernel_rfl)) rfl ?_
      exact ⟨by first | rfl | (simp [errW_none, errW_some] <;> rfl) | (simp [*, errW_none, errW_some] <;> rfl), by repeat (first | (with_reducible first | exact HB.out | apply below_alloc | apply pw_below_drewN | apply below_drew1 | refine below_set ?_ GE101.out) | exact HB.out)⟩
end Go.Proofs.Ytklapbgajghhcaa.G
end
