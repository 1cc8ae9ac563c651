/- Functions of the seat and plain laws about them: GF10. -/
import Derived.Test.YtklapbgajghhcaaGBase
import Derived.Test.YtklapbgajghhcaaZW0
import Derived.Test.YtklapbgajghhcaaZW7
section
namespace Go.Proofs.Ytklapbgajghhcaa.G
open Go.RowKit Go.Proofs.YtklapbgajghhcaaW.PrintWords Go.Proofs.YtklapbgajghhcaaW.PrintLast Go.Proofs.YtklapbgajghhcaaW.PrintMore
attribute [local go_sem] max2_int min2_int max_two min_two max_three min_three max_four min_four
set_option linter.unusedVariables false
set_option linter.unusedSimpArgs false
mutual
def wear_Between.l0 : Nat → List Int → Int → Int → Int → Int → Int → Option (Int × Int × Int)
  | 0, _, _, _, _, _, _ => none
  | k + 1, x0, x1, x25, x26, x105000, x105001 => if x26 < x25 then (if 0 ≤ x26 then (if x26 ≤ (wrap64 (x1 + 1)) then (if (wrap64 (x1 + 1)) ≤ (x0.length : Int) then ((wear_mean.f k ((x0.take ((wrap64 (x1 + 1)) : Int).toNat).drop (x26 : Int).toNat)).bind fun bt106 => (wear_Between.l1 k x0 x1 x26 (wrap64 (x1 + 1)) x25 x26 x105000 x105001 bt106.1 bt106.2)) else (none)) else (none)) else (none)) else (some (x105000, x105001, 0))
def wear_Between.l1 : Nat → List Int → Int → Int → Int → Int → Int → Int → Int → Int → Int → Option (Int × Int × Int)
  | 0, _, _, _, _, _, _, _, _, _, _ => none
  | k + 1, x0, x1, x7, x9, x25, x26, x105000, x105001, x109000, x109001 => if x9 < (x0.length : Int) then (if 0 ≤ x7 then (if x7 ≤ (wrap64 (x9 + 1)) then (if (wrap64 (x9 + 1)) ≤ (x0.length : Int) then ((wear_mean.f k ((x0.take ((wrap64 (x9 + 1)) : Int).toNat).drop (x7 : Int).toNat)).bind fun bt111 => ((wear_less.f bt111.1 bt111.2 x109000 x109001).bind fun t114 => (if t114 = true then (wear_Between.l1 k x0 x1 x7 (wrap64 (x9 + 1)) x25 x26 x105000 x105001 bt111.1 bt111.2) else (wear_Between.l1 k x0 x1 x7 (wrap64 (x9 + 1)) x25 x26 x105000 x105001 x109000 x109001)))) else (none)) else (none)) else (none)) else (if x7 = 0 then (wear_Between.l0 k x0 x1 x25 (wrap64 (x26 + 1)) x109000 x109001) else ((wear_less.f x105000 x105001 x109000 x109001).bind fun t109 => (if t109 = true then (wear_Between.l0 k x0 x1 x25 (wrap64 (x26 + 1)) x109000 x109001) else (wear_Between.l0 k x0 x1 x25 (wrap64 (x26 + 1)) x105000 x105001))))
end
def wear_Between.f (k : Nat) (l0 : List Int) (a1 : Int) : Option (Int × Int × Int) := (wear_Valid.f k l0).bind fun t102 => (if t102 = true then ((wear_within.f 0 a1 (wrap64 ((l0.length : Int) - 1))).bind fun t103 => (if t103 = true then (wear_Between.l0 k l0 a1 (wrap64 (a1 + 1)) 0 0 0) else (some (0, 0, 2)))) else (some (0, 0, 70)))
theorem wear_Between.mono_l : ∀ k, (∀ y0 y1 y2 y3 y4 y5, LeO (wear_Between.l0 k y0 y1 y2 y3 y4 y5) (wear_Between.l0 (k + 1) y0 y1 y2 y3 y4 y5)) ∧ (∀ y0 y1 y2 y3 y4 y5 y6 y7 y8 y9, LeO (wear_Between.l1 k y0 y1 y2 y3 y4 y5 y6 y7 y8 y9) (wear_Between.l1 (k + 1) y0 y1 y2 y3 y4 y5 y6 y7 y8 y9))
  | 0 => ⟨fun _ _ _ _ _ _ r h => by simp [wear_Between.l0] at h, fun _ _ _ _ _ _ _ _ _ _ r h => by simp [wear_Between.l1] at h⟩
  | k + 1 => by
    obtain ⟨ih0, ih1⟩ := wear_Between.mono_l k
    refine ⟨?_, ?_⟩
    · intro y0 y1 y2 y3 y4 y5
      unfold wear_Between.l0
      repeat' first
      | (with_reducible exact ih0 _ _ _ _ _ _)
      | (with_reducible exact ih1 _ _ _ _ _ _ _ _ _ _)
      | (with_reducible exact wear_Valid.mono _ _)
      | (with_reducible exact wear_mean.mono _ _)
      | (with_reducible exact LeO.refl _)
      | (with_reducible exact LeO.none _)
      | (with_reducible refine LeO.ite ?_ ?_)
      | (with_reducible refine LeO.bind ?_ (fun _ => ?_))
      | exact ih0 _ _ _ _ _ _
      | exact ih1 _ _ _ _ _ _ _ _ _ _
      | exact wear_Valid.mono _ _
      | exact wear_mean.mono _ _
      | exact LeO.none _
      | refine LeO.ite ?_ ?_
      | refine LeO.bind ?_ (fun _ => ?_)
    · intro y0 y1 y2 y3 y4 y5 y6 y7 y8 y9
      unfold wear_Between.l1
      repeat' first
      | (with_reducible exact ih0 _ _ _ _ _ _)
      | (with_reducible exact ih1 _ _ _ _ _ _ _ _ _ _)
      | (with_reducible exact wear_Valid.mono _ _)
      | (with_reducible exact wear_mean.mono _ _)
      | (with_reducible exact LeO.refl _)
      | (with_reducible exact LeO.none _)
      | (with_reducible refine LeO.ite ?_ ?_)
      | (with_reducible refine LeO.bind ?_ (fun _ => ?_))
      | exact ih0 _ _ _ _ _ _
      | exact ih1 _ _ _ _ _ _ _ _ _ _
      | exact wear_Valid.mono _ _
      | exact wear_mean.mono _ _
      | exact LeO.none _
      | refine LeO.ite ?_ ?_
      | refine LeO.bind ?_ (fun _ => ?_)
theorem wear_Between.mono : ∀ a0 a1 k, LeO (wear_Between.f k a0 a1) (wear_Between.f (k + 1) a0 a1) := by
  intro a0 a1 k
  obtain ⟨ih0, ih1⟩ := wear_Between.mono_l k
  unfold wear_Between.f
  repeat' first
      | (with_reducible exact ih0 _ _ _ _ _ _)
      | (with_reducible exact ih1 _ _ _ _ _ _ _ _ _ _)
      | (with_reducible exact wear_Valid.mono _ _)
      | (with_reducible exact wear_mean.mono _ _)
      | (with_reducible exact LeO.refl _)
      | (with_reducible exact LeO.none _)
      | (with_reducible refine LeO.ite ?_ ?_)
      | (with_reducible refine LeO.bind ?_ (fun _ => ?_))
      | exact ih0 _ _ _ _ _ _
      | exact ih1 _ _ _ _ _ _ _ _ _ _
      | exact wear_Valid.mono _ _
      | exact wear_mean.mono _ _
      | exact LeO.none _
      | refine LeO.ite ?_ ?_
      | refine LeO.bind ?_ (fun _ => ?_)
set_option maxHeartbeats 8000000 in
set_option maxRecDepth 100000 in
theorem wear_Between.calls (k : Nat) (A0 : Option Addr) (c0 : Nat) (l0 : List Int) (a1 : Int) (r1 : Int) (r2 : Int) (r3 : Int) (w : World) (hr0 : Kd.C (Kd.int .i64) w A0 l0.length l0) (hc0 : l0.length ≤ c0) (h : wear_Between.f k l0 a1 = some (r1, r2, r3)) :
    Calls Try.prog 10 #[.slice A0 l0.length c0, .int .i64 a1] w fun e w' => e = .returned (.tuple #[.agg #[.int .i64 r1, .int .i64 r2], .int .i64 r3]) ∧ Below w.heap.size w w' := by
  have hu35 := Try.underlying35
  have HR0 := Aside0.mk hr0
  have HC0 := Aside0.mk hc0
  clear hr0 hc0
  have HB := Aside0.mk (Below.refl w.heap.size w)
  have H : ((wear_Valid.f k l0).bind fun t102 => (if t102 = true then ((wear_within.f 0 a1 (wrap64 ((l0.length : Int) - 1))).bind fun t103 => (if t103 = true then (wear_Between.l0 k l0 a1 (wrap64 (a1 + 1)) 0 0 0) else (some (0, 0, 2)))) else (some (0, 0, 70)))) = some (r1, r2, r3) := h
  clear h
  replace H := Option.bind_eq_some_iff.mp H
  obtain ⟨t102, A30, H⟩ := H
  replace H : (if t102 = true then ((wear_within.f 0 a1 (wrap64 ((l0.length : Int) - 1))).bind fun t103 => (if t103 = true then (wear_Between.l0 k l0 a1 (wrap64 (a1 + 1)) 0 0 0) else (some (0, 0, 2)))) else (some (0, 0, 70))) = some (r1, r2, r3) := H
  have A3 := Aside0.mk A30
  clear A30
  by_cases c4 : t102 = true
  rotate_left
  · replace c4 := Bool.eq_false_iff.mpr c4
    subst c4
    have H1 : (some (0, 0, 70)) = some (r1, r2, r3) := by rw [if_neg (show ¬ (false = true) by decide)] at H; exact H
    clear H
    have H := H1
    clear H1
    simp only [Option.some.injEq, Prod.mk.injEq] at H
    obtain ⟨rfl, rfl, rfl⟩ := H
    go_enter Try.func10, Try.ntmps10
    go_wp2_with (first | ((with_reducible refine gate_dst (N := 4) rfl ?_); refine box_event ?hg (N := 4) ?hd (cs := #[.int .i64 0, .int .i64 0]) (t := 35) ?hr ?_; (case hd => rfl); (case hg => rfl); (case hr => first | (go_simp; done) | (go_simp; rfl)); intro gb101 hg w80 hbox hb; have n0_ := Aside0.mk (below_step (by repeat (first | (with_reducible first | exact HB.out | apply below_alloc | apply pw_below_drewN | apply below_drew1) | exact HB.out)) hb); have n1_ := Aside0.mk (hbox); have n2_ := Aside0.mk ((by rw [hg]; exact (below_size (by repeat (first | (with_reducible first | exact HB.out | apply below_alloc | apply pw_below_drewN | apply below_drew1) | exact HB.out))) : w.heap.size ≤ gb101)); have n3_ := Aside0.mk ((by rw [hg]; exact (below_size (by repeat (first | (with_reducible first | exact HB.out | apply below_alloc | apply pw_below_drewN | apply below_drew1) | exact HB.out))) : w.heap.size ≤ gb101)); clear HB; have HB := n0_; have BK101 := n1_; have GW101 := n2_; have GE101 := n3_; clear n0_ n1_ n2_ n3_; clear hb hbox hg) | ((with_reducible refine gate_callee (f := 20) rfl ?_); refine goesL_ (some 13) rfl rfl Try.func20 (by kernel_rfl) rfl #[.slice A0 l0.length c0] rfl (by (try simp only [List.map_toArray, List.map_cons, List.map_nil]); first | done | rfl | (simp only [List.length_drop, List.length_take]; rfl)) ?_; (with_reducible refine (wear_Valid.calls k _ _ l0 false _ ?side1 ?side2 A3.out).mono ?_); (case side1 => repeat (first | exact (Kd.C_below HR0.out HB.out) | (with_reducible refine Kd.C_alloc ?_ _) | (with_reducible refine Kd.C_drewN ?_ _) | (with_reducible refine Kd.C_drew ?_))); (case side2 => exact HC0.out); rintro e w81 ⟨rfl, hb⟩; refine ⟨_, rfl, ?_⟩; have n0_ := Aside0.mk (bkB BK101 hb); have n1_ := Aside0.mk (below_step (by repeat (first | (with_reducible first | exact HB.out | apply below_alloc | apply pw_below_drewN | apply below_drew1 | refine below_set ?_ GE101.out) | exact HB.out)) hb); clear BK101; clear HB; have BK101 := n0_; have HB := n1_; clear n0_ n1_; (try clear hb); (try clear hb2); (try clear hk); (try clear hi); have hcz82_0 : w81.cell? ⟨gb101, 0, none⟩ = some (.int .i64 0) := (blk_cell BK101.out 0).trans rfl; have hcz82_1 : w81.cell? ⟨gb101, 1, none⟩ = some (.int .i64 0) := (blk_cell BK101.out 1).trans rfl; have hfz82_0 := blk_frozen BK101.out 0; have hfz82_1 := blk_frozen BK101.out 1))
    refine bodyPost_ret (results_ct rfl _ _ gb101 35 #[.int .i64 0, .int .i64 0] (0, 0) _ rfl (by (with_reducible repeat (first | refine blk_drewN ?_ _ | refine blk_drew ?_ | refine blk_alloc ?_ _)); refine blk_put (cs := #[.int .i64 0, .int .i64 0]) ?_ 1 _ rfl; (with_reducible repeat (first | refine blk_drewN ?_ _ | refine blk_drew ?_ | refine blk_alloc ?_ _)); refine blk_put (cs := #[.int .i64 0, .int .i64 0]) ?_ 0 _ rfl; (with_reducible repeat (first | refine blk_drewN ?_ _ | refine blk_drew ?_ | refine blk_alloc ?_ _)); exact BK101.out) Try.underlying35 rfl (by kernel_rfl)) rfl ?_
    exact ⟨by first | rfl | (simp [errW_none, errW_some] <;> rfl) | (simp [*, errW_none, errW_some] <;> rfl), by repeat (first | (with_reducible first | exact HB.out | apply below_alloc | apply pw_below_drewN | apply below_drew1 | refine below_set ?_ GE101.out) | exact HB.out)⟩
  subst c4
  have H1 : ((wear_within.f 0 a1 (wrap64 ((l0.length : Int) - 1))).bind fun t103 => (if t103 = true then (wear_Between.l0 k l0 a1 (wrap64 (a1 + 1)) 0 0 0) else (some (0, 0, 2)))) = some (r1, r2, r3) := by rw [if_pos rfl] at H; exact H
  clear H
  have H := H1
  clear H1
  replace H := Option.bind_eq_some_iff.mp H
  obtain ⟨t103, A50, H⟩ := H
  replace H : (if t103 = true then (wear_Between.l0 k l0 a1 (wrap64 (a1 + 1)) 0 0 0) else (some (0, 0, 2))) = some (r1, r2, r3) := H
  have A5 := Aside0.mk A50
  clear A50
  by_cases c6 : t103 = true
  rotate_left
  · replace c6 := Bool.eq_false_iff.mpr c6
    subst c6
    have H1 : (some (0, 0, 2)) = some (r1, r2, r3) := by rw [if_neg (show ¬ (false = true) by decide)] at H; exact H
    clear H
    have H := H1
    clear H1
    simp only [Option.some.injEq, Prod.mk.injEq] at H
    obtain ⟨rfl, rfl, rfl⟩ := H
    go_enter Try.func10, Try.ntmps10
    go_wp2_with (first | ((with_reducible refine gate_dst (N := 4) rfl ?_); refine box_event ?hg (N := 4) ?hd (cs := #[.int .i64 0, .int .i64 0]) (t := 35) ?hr ?_; (case hd => rfl); (case hg => rfl); (case hr => first | (go_simp; done) | (go_simp; rfl)); intro gb101 hg w77 hbox hb; have n0_ := Aside0.mk (below_step (by repeat (first | (with_reducible first | exact HB.out | apply below_alloc | apply pw_below_drewN | apply below_drew1) | exact HB.out)) hb); have n1_ := Aside0.mk (hbox); have n2_ := Aside0.mk ((by rw [hg]; exact (below_size (by repeat (first | (with_reducible first | exact HB.out | apply below_alloc | apply pw_below_drewN | apply below_drew1) | exact HB.out))) : w.heap.size ≤ gb101)); have n3_ := Aside0.mk ((by rw [hg]; exact (below_size (by repeat (first | (with_reducible first | exact HB.out | apply below_alloc | apply pw_below_drewN | apply below_drew1) | exact HB.out))) : w.heap.size ≤ gb101)); clear HB; have HB := n0_; have BK101 := n1_; have GW101 := n2_; have GE101 := n3_; clear n0_ n1_ n2_ n3_; clear hb hbox hg) | ((with_reducible refine gate_callee (f := 20) rfl ?_); refine goesL_ (some 13) rfl rfl Try.func20 (by kernel_rfl) rfl #[.slice A0 l0.length c0] rfl (by (try simp only [List.map_toArray, List.map_cons, List.map_nil]); first | done | rfl | (simp only [List.length_drop, List.length_take]; rfl)) ?_; (with_reducible refine (wear_Valid.calls k _ _ l0 true _ ?side1 ?side2 A3.out).mono ?_); (case side1 => repeat (first | exact (Kd.C_below HR0.out HB.out) | (with_reducible refine Kd.C_alloc ?_ _) | (with_reducible refine Kd.C_drewN ?_ _) | (with_reducible refine Kd.C_drew ?_))); (case side2 => exact HC0.out); rintro e w78 ⟨rfl, hb⟩; refine ⟨_, rfl, ?_⟩; have n0_ := Aside0.mk (bkB BK101 hb); have n1_ := Aside0.mk (below_step (by repeat (first | (with_reducible first | exact HB.out | apply below_alloc | apply pw_below_drewN | apply below_drew1 | refine below_set ?_ GE101.out) | exact HB.out)) hb); clear BK101; clear HB; have BK101 := n0_; have HB := n1_; clear n0_ n1_; (try clear hb); (try clear hb2); (try clear hk); (try clear hi)) | ((with_reducible refine gate_callee (f := 26) rfl ?_); refine goesL_ (some 21) rfl rfl Try.func26 (by kernel_rfl) rfl #[.int .i64 0, .int .i64 a1, .int .i64 (wrap64 ((l0.length : Int) - 1))] rfl (by (try simp only [List.map_toArray, List.map_cons, List.map_nil]); first | done | rfl | (simp only [List.length_drop, List.length_take]; rfl)) ?_; (with_reducible refine (wear_within.calls 0 a1 (wrap64 ((l0.length : Int) - 1)) false _ A5.out).mono ?_); rintro e w' ⟨rfl, ⟨nd, rfl⟩⟩; refine ⟨_, rfl, ?_⟩; (try (rw [drewN_self w78]; generalize hq_ : World.drewN w78 _ = w78; have n0_ : Aside0 (w78.heap[gb101]? = some (.cells #[.int .i64 0, .int .i64 0] 35 (0, 0))) := ⟨by rw [← hq_]; exact (bkU BK101)⟩; have n1_ : Aside0 (Below w.heap.size w w78) := ⟨by rw [← hq_]; exact (by repeat (first | (with_reducible first | exact HB.out | apply below_alloc | apply pw_below_drewN | apply below_drew1 | refine below_set ?_ GE101.out) | exact HB.out))⟩; clear BK101 HB hq_; have BK101 := n0_; have HB := n1_; clear n0_ n1_)); have hcz79_0 : w78.cell? ⟨gb101, 0, none⟩ = some (.int .i64 0) := (blk_cell BK101.out 0).trans rfl; have hcz79_1 : w78.cell? ⟨gb101, 1, none⟩ = some (.int .i64 0) := (blk_cell BK101.out 1).trans rfl; have hfz79_0 := blk_frozen BK101.out 0; have hfz79_1 := blk_frozen BK101.out 1))
    refine bodyPost_ret (results_ct rfl _ _ gb101 35 #[.int .i64 0, .int .i64 0] (0, 0) _ rfl (by (with_reducible repeat (first | refine blk_drewN ?_ _ | refine blk_drew ?_ | refine blk_alloc ?_ _)); refine blk_put (cs := #[.int .i64 0, .int .i64 0]) ?_ 1 _ rfl; (with_reducible repeat (first | refine blk_drewN ?_ _ | refine blk_drew ?_ | refine blk_alloc ?_ _)); refine blk_put (cs := #[.int .i64 0, .int .i64 0]) ?_ 0 _ rfl; (with_reducible repeat (first | refine blk_drewN ?_ _ | refine blk_drew ?_ | refine blk_alloc ?_ _)); exact BK101.out) Try.underlying35 rfl (by kernel_rfl)) rfl ?_
    exact ⟨by first | rfl | (simp [errW_none, errW_some] <;> rfl) | (simp [*, errW_none, errW_some] <;> rfl), by repeat (first | (with_reducible first | exact HB.out | apply below_alloc | apply pw_below_drewN | apply below_drew1 | refine below_set ?_ GE101.out) | exact HB.out)⟩
  subst c6
  have H1 : (wear_Between.l0 k l0 a1 (wrap64 (a1 + 1)) 0 0 0) = some (r1, r2, r3) := by rw [if_pos rfl] at H; exact H
  clear H
  have H := H1
  clear H1
  have H' := Aside0.mk H
  clear H
  go_enter Try.func10, Try.ntmps10
  go_wp2_with (first | ((with_reducible refine gate_dst (N := 4) rfl ?_); refine box_event ?hg (N := 4) ?hd (cs := #[.int .i64 0, .int .i64 0]) (t := 35) ?hr ?_; (case hd => rfl); (case hg => rfl); (case hr => first | (go_simp; done) | (go_simp; rfl)); intro gb101 hg w7 hbox hb; have n0_ := Aside0.mk (below_step (by repeat (first | (with_reducible first | exact HB.out | apply below_alloc | apply pw_below_drewN | apply below_drew1) | exact HB.out)) hb); have n1_ := Aside0.mk (hbox); have n2_ := Aside0.mk ((by rw [hg]; exact (below_size (by repeat (first | (with_reducible first | exact HB.out | apply below_alloc | apply pw_below_drewN | apply below_drew1) | exact HB.out))) : w.heap.size ≤ gb101)); have n3_ := Aside0.mk ((by rw [hg]; exact (below_size (by repeat (first | (with_reducible first | exact HB.out | apply below_alloc | apply pw_below_drewN | apply below_drew1) | exact HB.out))) : w.heap.size ≤ gb101)); clear HB; have HB := n0_; have BK101 := n1_; have GW101 := n2_; have GE101 := n3_; clear n0_ n1_ n2_ n3_; clear hb hbox hg) | ((with_reducible refine gate_callee (f := 20) rfl ?_); refine goesL_ (some 13) rfl rfl Try.func20 (by kernel_rfl) rfl #[.slice A0 l0.length c0] rfl (by (try simp only [List.map_toArray, List.map_cons, List.map_nil]); first | done | rfl | (simp only [List.length_drop, List.length_take]; rfl)) ?_; (with_reducible refine (wear_Valid.calls k _ _ l0 true _ ?side1 ?side2 A3.out).mono ?_); (case side1 => repeat (first | exact (Kd.C_below HR0.out HB.out) | (with_reducible refine Kd.C_alloc ?_ _) | (with_reducible refine Kd.C_drewN ?_ _) | (with_reducible refine Kd.C_drew ?_))); (case side2 => exact HC0.out); rintro e w8 ⟨rfl, hb⟩; refine ⟨_, rfl, ?_⟩; have n0_ := Aside0.mk (bkB BK101 hb); have n1_ := Aside0.mk (below_step (by repeat (first | (with_reducible first | exact HB.out | apply below_alloc | apply pw_below_drewN | apply below_drew1 | refine below_set ?_ GE101.out) | exact HB.out)) hb); clear BK101; clear HB; have BK101 := n0_; have HB := n1_; clear n0_ n1_; (try clear hb); (try clear hb2); (try clear hk); (try clear hi)) | ((with_reducible refine gate_callee (f := 26) rfl ?_); refine goesL_ (some 21) rfl rfl Try.func26 (by kernel_rfl) rfl #[.int .i64 0, .int .i64 a1, .int .i64 (wrap64 ((l0.length : Int) - 1))] rfl (by (try simp only [List.map_toArray, List.map_cons, List.map_nil]); first | done | rfl | (simp only [List.length_drop, List.length_take]; rfl)) ?_; (with_reducible refine (wear_within.calls 0 a1 (wrap64 ((l0.length : Int) - 1)) true _ A5.out).mono ?_); rintro e w' ⟨rfl, ⟨nd, rfl⟩⟩; refine ⟨_, rfl, ?_⟩) | ((with_reducible refine gate_dst (N := 6) rfl ?_); refine box_event ?hg (N := 6) ?hd (cs := #[.int .i64 0, .int .i64 0]) (t := 35) ?hr ?_; (case hd => rfl); (case hg => rfl); (case hr => first | (go_simp; done) | (go_simp; rfl)); intro gb104 hg w9 hbox hb; have n0_ := Aside0.mk (bkB BK101 hb); have n1_ := Aside0.mk (below_step (by repeat (first | (with_reducible first | exact HB.out | apply below_alloc | apply pw_below_drewN | apply below_drew1 | refine below_set ?_ GE101.out) | exact HB.out)) hb); have n2_ := Aside0.mk (hbox); have n3_ := Aside0.mk ((by rw [hg]; exact (below_size (by repeat (first | (with_reducible first | exact HB.out | apply below_alloc | apply pw_below_drewN | apply below_drew1 | refine below_set ?_ GE101.out) | exact HB.out))) : w.heap.size ≤ gb104)); have n4_ := Aside0.mk ((by rw [hg]; exact (below_size (by repeat (first | (with_reducible first | exact HB.out | apply below_alloc | apply pw_below_drewN | apply below_drew1 | refine below_set ?_ GE101.out) | exact HB.out))) : w.heap.size ≤ gb104)); have n5_ := Aside0.mk ((bkL BK101 hg : gb101 ≠ gb104)); have n6_ := Aside0.mk ((bkG BK101 hg : gb104 ≠ gb101)); clear BK101; clear HB; have BK101 := n0_; have HB := n1_; have BK104 := n2_; have GW104 := n3_; have GE104 := n4_; have NB101_104 := n5_; have NB104_101 := n6_; clear n0_ n1_ n2_ n3_ n4_ n5_ n6_; clear hb hbox hg))
  go_loopg [26] k (fun kq v26 w' => ∃ (x26_1 : Int) (x105000_1 : Int) (x105001_1 : Int), v26 = .int .i64 x26_1 ∧ Aside0 (wear_Between.l0 kq l0 a1 (wrap64 (a1 + 1)) x26_1 x105000_1 x105001_1 = some (r1, r2, r3)) ∧ Aside0 (kq ≤ k) ∧ Aside0 (w'.heap[gb101]? = some (.cells #[.int .i64 0, .int .i64 0] 35 (0, 0))) ∧ Aside0 (w'.heap[gb104]? = some (.cells #[.int .i64 x105000_1, .int .i64 x105001_1] 35 (0, 0))) ∧ Aside0 (Below w.heap.size w w'))
  case atStart => exact ⟨(0), (0), (0), (by first | rfl | (simp; done) | (simp [*]; done)), H', ⟨Nat.le_refl _⟩, ⟨bkU BK101⟩, ⟨bkU BK104⟩, ⟨by repeat (first | (with_reducible first | exact HB.out | apply below_alloc | apply pw_below_drewN | apply below_drew1 | refine below_set ?_ GE101.out | refine below_set ?_ GE104.out) | exact HB.out)⟩⟩
  case round =>
    clear H'
    try clear c1
    try clear c2
    try clear p2
    try clear c4
    try clear c6
    try clear p6
    obtain ⟨x26_1, x105000_1, x105001_1, rfl, HA, HK1, BK101, BK104, HB⟩ := hrel
    cases gk with
    | zero => exact absurd HA.out (by simp [wear_Between.l0])
    | succ k1 =>
      have H := HA.out
      clear HA
      simp only [wear_Between.l0] at H
      by_cases c10 : x26_1 < (wrap64 (a1 + 1))
      rotate_left
      · rw [if_neg c10] at H
        have c10b0 : decide (x26_1 < (wrap64 (a1 + 1))) = false := decide_eq_false c10
        clear c10
        simp only [Option.some.injEq, Prod.mk.injEq] at H
        obtain ⟨rfl, rfl, rfl⟩ := H
        have hnb74 := NB104_101.out
        have hnc74 := NB101_104.out
        have hcz75_0 : wr.cell? ⟨gb104, 0, none⟩ = some (.int .i64 x105000_1) := (blk_cell BK104.out 0).trans rfl
        have hcz75_1 : wr.cell? ⟨gb104, 1, none⟩ = some (.int .i64 x105001_1) := (blk_cell BK104.out 1).trans rfl
        have hfz75_0 := blk_frozen BK104.out 0
        have hfz75_1 := blk_frozen BK104.out 1
        have hcz76_0 : wr.cell? ⟨gb101, 0, none⟩ = some (.int .i64 0) := (blk_cell BK101.out 0).trans rfl
        have hcz76_1 : wr.cell? ⟨gb101, 1, none⟩ = some (.int .i64 0) := (blk_cell BK101.out 1).trans rfl
        have hfz76_0 := blk_frozen BK101.out 0
        have hfz76_1 := blk_frozen BK101.out 1
        go_wp2
        refine bodyPost_ret (results_ct rfl _ _ gb101 35 #[.int .i64 x105000_1, .int .i64 x105001_1] (0, 0) _ rfl (by (with_reducible repeat (first | refine blk_drewN ?_ _ | refine blk_drew ?_ | refine blk_alloc ?_ _)); refine blk_put (cs := #[.int .i64 x105000_1, .int .i64 0]) ?_ 1 _ rfl; (with_reducible repeat (first | refine blk_drewN ?_ _ | refine blk_drew ?_ | refine blk_alloc ?_ _)); refine blk_put (cs := #[.int .i64 0, .int .i64 0]) ?_ 0 _ rfl; (with_reducible repeat (first | refine blk_drewN ?_ _ | refine blk_drew ?_ | refine blk_alloc ?_ _)); exact BK101.out) Try.underlying35 rfl (by kernel_rfl)) rfl ?_
        exact ⟨by first | rfl | (simp [errW_none, errW_some] <;> rfl) | (simp [*, errW_none, errW_some] <;> rfl), by repeat (first | (with_reducible first | exact HB.out | apply below_alloc | apply pw_below_drewN | apply below_drew1 | refine below_set ?_ GE101.out | refine below_set ?_ GE104.out) | exact HB.out)⟩
      rw [if_pos c10] at H
      have c10b0 : decide (x26_1 < (wrap64 (a1 + 1))) = true := decide_eq_true c10
      clear c10
      by_cases c11 : 0 ≤ x26_1
      rotate_left
      · rw [if_neg c11] at H
        exact absurd H (by simp)
      rw [if_pos c11] at H
      have c11b0 := eq_true c11
      have c11b1 : decide (0 ≤ x26_1) = true := decide_eq_true c11
      clear c11
      by_cases c12 : x26_1 ≤ (wrap64 (a1 + 1))
      rotate_left
      · rw [if_neg c12] at H
        exact absurd H (by simp)
      rw [if_pos c12] at H
      have c12b0 := eq_true c12
      have c12b1 : decide (x26_1 ≤ (wrap64 (a1 + 1))) = true := decide_eq_true c12
      by_cases c13 : (wrap64 (a1 + 1)) ≤ (l0.length : Int)
      rotate_left
      · rw [if_neg c13] at H
        exact absurd H (by simp)
      rw [if_pos c13] at H
      have c13b0 := eq_true c13
      have c13b1 : decide ((wrap64 (a1 + 1)) ≤ (l0.length : Int)) = true := decide_eq_true c13
      replace H := Option.bind_eq_some_iff.mp H
      obtain ⟨⟨t106, t107⟩, A140, H⟩ := H
      replace H : (wear_Between.l1 k1 l0 a1 x26_1 (wrap64 (a1 + 1)) (wrap64 (a1 + 1)) x26_1 x105000_1 x105001_1 t106 t107) = some (r1, r2, r3) := H
      have A14 := Aside0.mk A140
      clear A140
      have H' := Aside0.mk H
      clear H
      obtain ⟨i015, hi015, _, hsz15, _⟩ := info_parts info3
      obtain ⟨A15, hcut15, hA15, hC15⟩ := print_mid_of (P := Try.prog) (Value.int .i64) 0 22 3 .i64 .i64 Try.underlying22 hi015 hsz15 A0 c0 l0 x26_1 (wrap64 (a1 + 1)) (of_decide_eq_true (by first | (with_reducible assumption) | assumption)) (by first | omega | exact of_decide_eq_true (by first | (with_reducible assumption) | assumption)) (of_decide_eq_true (by first | (with_reducible assumption) | assumption)) HC0.out
      have HR105 := Aside0.mk (Kd.C_of_reads (h1 := fun _ => rfl) (hA15 _ (Kd.reads_of_C HR0.out)))
      have HC105 := Aside0.mk hC15
      clear hA15 hC15 hi015 hsz15
      go_wp2_with (first | ((with_reducible refine gate_callee (f := 27) rfl ?_); refine goesL_ (some 34) rfl rfl Try.func27 (by kernel_rfl) rfl #[.slice A15 ((l0.take ((wrap64 (a1 + 1)) : Int).toNat).drop (x26_1 : Int).toNat).length (c0 - x26_1.toNat)] rfl (by (try simp only [List.map_toArray, List.map_cons, List.map_nil]); first | done | (rw [show ((l0.take ((wrap64 (a1 + 1)) : Int).toNat).drop (x26_1 : Int).toNat).length = ((wrap64 (a1 + 1)).toNat - x26_1.toNat) from (by rw [List.length_drop, List.length_take]; have h_ : ((wrap64 (a1 + 1)) : Int) ≤ (l0.length : Int) := of_decide_eq_true (by first | (with_reducible assumption) | assumption); omega)] <;> rfl) | rfl | (simp only [List.length_drop, List.length_take]; rfl)) ?_; (with_reducible refine (wear_mean.calls k1 _ _ ((l0.take ((wrap64 (a1 + 1)) : Int).toNat).drop (x26_1 : Int).toNat) t106 t107 _ ?side1 ?side2 A14.out).mono ?_); (case side1 => repeat (first | exact (Kd.C_below HR105.out HB.out) | (with_reducible refine Kd.C_alloc ?_ _) | (with_reducible refine Kd.C_drewN ?_ _) | (with_reducible refine Kd.C_drew ?_))); (case side2 => exact HC105.out); rintro e w16 ⟨rfl, hb⟩; refine ⟨_, rfl, ?_⟩; have n0_ := Aside0.mk (bkB BK101 hb); have n1_ := Aside0.mk (bkB BK104 hb); have n2_ := Aside0.mk (below_step (by repeat (first | (with_reducible first | exact HB.out | apply below_alloc | apply pw_below_drewN | apply below_drew1 | refine below_set ?_ GE101.out | refine below_set ?_ GE104.out) | exact HB.out)) hb); clear BK101; clear BK104; clear HB; have BK101 := n0_; have BK104 := n1_; have HB := n2_; clear n0_ n1_ n2_; (try clear hb); (try clear hb2); (try clear hk); (try clear hi)) | ((with_reducible refine gate_dst (N := 8) rfl ?_); refine box_event ?hg (N := 8) ?hd (cs := #[.int .i64 0, .int .i64 0]) (t := 35) ?hr ?_; (case hd => rfl); (case hg => rfl); (case hr => first | (go_simp; done) | (go_simp; rfl)); intro gb108 hg w17 hbox hb; have n0_ := Aside0.mk (bkB BK101 hb); have n1_ := Aside0.mk (bkB BK104 hb); have n2_ := Aside0.mk (below_step (by repeat (first | (with_reducible first | exact HB.out | apply below_alloc | apply pw_below_drewN | apply below_drew1 | refine below_set ?_ GE101.out | refine below_set ?_ GE104.out) | exact HB.out)) hb); have n3_ := Aside0.mk (hbox); have n4_ := Aside0.mk ((by rw [hg]; exact (below_size (by repeat (first | (with_reducible first | exact HB.out | apply below_alloc | apply pw_below_drewN | apply below_drew1 | refine below_set ?_ GE101.out | refine below_set ?_ GE104.out) | exact HB.out))) : w.heap.size ≤ gb108)); have n5_ := Aside0.mk ((by rw [hg]; exact (below_size (by repeat (first | (with_reducible first | exact HB.out | apply below_alloc | apply pw_below_drewN | apply below_drew1 | refine below_set ?_ GE101.out | refine below_set ?_ GE104.out) | exact HB.out))) : w.heap.size ≤ gb108)); have n6_ := Aside0.mk ((bkL BK101 hg : gb101 ≠ gb108)); have n7_ := Aside0.mk ((bkG BK101 hg : gb108 ≠ gb101)); have n8_ := Aside0.mk ((bkL BK104 hg : gb104 ≠ gb108)); have n9_ := Aside0.mk ((bkG BK104 hg : gb108 ≠ gb104)); clear BK101; clear BK104; clear HB; have BK101 := n0_; have BK104 := n1_; have HB := n2_; have BK108 := n3_; have GW108 := n4_; have GE108 := n5_; have NB101_108 := n6_; have NB108_101 := n7_; have NB104_108 := n8_; have NB108_104 := n9_; clear n0_ n1_ n2_ n3_ n4_ n5_ n6_ n7_ n8_ n9_; clear hb hbox hg; have hnb18 := NB108_101.out; have hnc18 := NB101_108.out; have hnb19 := NB108_104.out; have hnc19 := NB104_108.out; have hcz20_0 : w17.cell? ⟨gb108, 0, none⟩ = some (.int .i64 0) := (blk_cell BK108.out 0).trans rfl; have hcz20_1 : w17.cell? ⟨gb108, 1, none⟩ = some (.int .i64 0) := (blk_cell BK108.out 1).trans rfl; have hfz20_0 := blk_frozen BK108.out 0; have hfz20_1 := blk_frozen BK108.out 1))
      go_loopg [9] k1 (fun kq v9 w' => ∃ (x9_2 : Int) (x109000_2 : Int) (x109001_2 : Int), v9 = .int .i64 x9_2 ∧ Aside0 (wear_Between.l1 kq l0 a1 x26_1 x9_2 (wrap64 (a1 + 1)) x26_1 x105000_1 x105001_1 x109000_2 x109001_2 = some (r1, r2, r3)) ∧ Aside0 (kq ≤ k1) ∧ Aside0 (w'.heap[gb101]? = some (.cells #[.int .i64 0, .int .i64 0] 35 (0, 0))) ∧ Aside0 (w'.heap[gb104]? = some (.cells #[.int .i64 x105000_1, .int .i64 x105001_1] 35 (0, 0))) ∧ Aside0 (w'.heap[gb108]? = some (.cells #[.int .i64 x109000_2, .int .i64 x109001_2] 35 (0, 0))) ∧ Aside0 (Below w.heap.size w w'))
      case atStart => exact ⟨(wrap64 (a1 + 1)), (t106), (t107), (by first | rfl | (simp; done) | (simp [*]; done)), H', ⟨Nat.le_refl _⟩, ⟨by (with_reducible repeat (first | refine blk_drewN ?_ _ | refine blk_drew ?_ | refine blk_alloc ?_ _)); refine blk_far ?_ NB101_108.out _; (with_reducible repeat (first | refine blk_drewN ?_ _ | refine blk_drew ?_ | refine blk_alloc ?_ _)); refine blk_far ?_ NB101_108.out _; (with_reducible repeat (first | refine blk_drewN ?_ _ | refine blk_drew ?_ | refine blk_alloc ?_ _)); exact BK101.out⟩, ⟨by (with_reducible repeat (first | refine blk_drewN ?_ _ | refine blk_drew ?_ | refine blk_alloc ?_ _)); refine blk_far ?_ NB104_108.out _; (with_reducible repeat (first | refine blk_drewN ?_ _ | refine blk_drew ?_ | refine blk_alloc ?_ _)); refine blk_far ?_ NB104_108.out _; (with_reducible repeat (first | refine blk_drewN ?_ _ | refine blk_drew ?_ | refine blk_alloc ?_ _)); exact BK104.out⟩, ⟨by (with_reducible repeat (first | refine blk_drewN ?_ _ | refine blk_drew ?_ | refine blk_alloc ?_ _)); refine blk_put (cs := #[.int .i64 t106, .int .i64 0]) ?_ 1 _ rfl; (with_reducible repeat (first | refine blk_drewN ?_ _ | refine blk_drew ?_ | refine blk_alloc ?_ _)); refine blk_put (cs := #[.int .i64 0, .int .i64 0]) ?_ 0 _ rfl; (with_reducible repeat (first | refine blk_drewN ?_ _ | refine blk_drew ?_ | refine blk_alloc ?_ _)); exact BK108.out⟩, ⟨by repeat (first | (with_reducible first | exact HB.out | apply below_alloc | apply pw_below_drewN | apply below_drew1 | refine below_set ?_ GE101.out | refine below_set ?_ GE104.out | refine below_set ?_ GE108.out) | exact HB.out)⟩⟩
      case round =>
        clear H'
        try clear c1
        try clear c2
        try clear p2
        try clear c4
        try clear c6
        try clear p6
        try clear c10
        try clear c10b0
        try clear c11
        try clear c11b0
        try clear c11b1
        try clear c12
        try clear c12b0
        try clear c12b1
        try clear c13
        try clear c13b0
        try clear c13b1
        try clear c18
        try clear c19
        try clear c20
        try clear hcz20_0
        try clear hcz20_1
        try clear hfz20_0
        try clear hfz20_1
        try clear p2
        try clear p6
        obtain ⟨x9_2, x109000_2, x109001_2, rfl, HA, HK2, BK101, BK104, BK108, HB⟩ := hrel
        cases gk with
        | zero => exact absurd HA.out (by simp [wear_Between.l1])
        | succ k2 =>
          have H := HA.out
          clear HA
          simp only [wear_Between.l1] at H
          by_cases c21 : x9_2 < (l0.length : Int)
          rotate_left
          · rw [if_neg c21] at H
            have c21b0 : decide (x9_2 < (l0.length : Int)) = false := decide_eq_false c21
            clear c21
            by_cases c52 : x26_1 = 0
            · rw [if_pos c52] at H
              have c52b0 : (x26_1 == 0) = true := beq_iff_eq.mpr c52
              have c52b1 : (x26_1 != 0) = false := bne_eq_false_iff_eq.mpr c52
              clear c52
              have H' := Aside0.mk H
              clear H
              have hnb53 := NB108_101.out
              have hnc53 := NB101_108.out
              have hnb54 := NB108_104.out
              have hnc54 := NB104_108.out
              have hcz55_0 : wr.cell? ⟨gb108, 0, none⟩ = some (.int .i64 x109000_2) := (blk_cell BK108.out 0).trans rfl
              have hcz55_1 : wr.cell? ⟨gb108, 1, none⟩ = some (.int .i64 x109001_2) := (blk_cell BK108.out 1).trans rfl
              have hfz55_0 := blk_frozen BK108.out 0
              have hfz55_1 := blk_frozen BK108.out 1
              have hnb56 := NB104_101.out
              have hnc56 := NB101_104.out
              have hcz57_0 : wr.cell? ⟨gb104, 0, none⟩ = some (.int .i64 x105000_1) := (blk_cell BK104.out 0).trans rfl
              have hcz57_1 : wr.cell? ⟨gb104, 1, none⟩ = some (.int .i64 x105001_1) := (blk_cell BK104.out 1).trans rfl
              have hfz57_0 := blk_frozen BK104.out 0
              have hfz57_1 := blk_frozen BK104.out 1
              go_wp2
              go_roundg k2
              case measure => have := HK1.out; have := HK2.out; omega
              case rel => exact ⟨(wrap64 (x26_1 + 1)), (x109000_2), (x109001_2), (by first | rfl | (simp; done) | (simp [*]; done)), H', ⟨by have := HK1.out; have := HK2.out; omega⟩, ⟨by (with_reducible repeat (first | refine blk_drewN ?_ _ | refine blk_drew ?_ | refine blk_alloc ?_ _)); refine blk_far ?_ NB101_104.out _; (with_reducible repeat (first | refine blk_drewN ?_ _ | refine blk_drew ?_ | refine blk_alloc ?_ _)); refine blk_far ?_ NB101_104.out _; (with_reducible repeat (first | refine blk_drewN ?_ _ | refine blk_drew ?_ | refine blk_alloc ?_ _)); exact BK101.out⟩, ⟨by (with_reducible repeat (first | refine blk_drewN ?_ _ | refine blk_drew ?_ | refine blk_alloc ?_ _)); refine blk_put (cs := #[.int .i64 x109000_2, .int .i64 x105001_1]) ?_ 1 _ rfl; (with_reducible repeat (first | refine blk_drewN ?_ _ | refine blk_drew ?_ | refine blk_alloc ?_ _)); refine blk_put (cs := #[.int .i64 x105000_1, .int .i64 x105001_1]) ?_ 0 _ rfl; (with_reducible repeat (first | refine blk_drewN ?_ _ | refine blk_drew ?_ | refine blk_alloc ?_ _)); exact BK104.out⟩, ⟨by repeat (first | (with_reducible first | exact HB.out | apply below_alloc | apply pw_below_drewN | apply below_drew1 | refine below_set ?_ GE101.out | refine below_set ?_ GE104.out | refine below_set ?_ GE108.out) | exact HB.out)⟩⟩
            rw [if_neg c52] at H
            have c52b0 : (x26_1 == 0) = false := beq_eq_false_iff_ne.mpr c52
            have c52b1 : (x26_1 != 0) = true := bne_iff_ne.mpr c52
            replace H := Option.bind_eq_some_iff.mp H
            obtain ⟨t109, A580, H⟩ := H
            replace H : (if t109 = true then (wear_Between.l0 k2 l0 a1 (wrap64 (a1 + 1)) (wrap64 (x26_1 + 1)) x109000_2 x109001_2) else (wear_Between.l0 k2 l0 a1 (wrap64 (a1 + 1)) (wrap64 (x26_1 + 1)) x105000_1 x105001_1)) = some (r1, r2, r3) := H
            have A58 := Aside0.mk A580
            clear A580
            by_cases c59 : t109 = true
            rotate_left
            · replace c59 := Bool.eq_false_iff.mpr c59
              subst c59
              have H1 : (wear_Between.l0 k2 l0 a1 (wrap64 (a1 + 1)) (wrap64 (x26_1 + 1)) x105000_1 x105001_1) = some (r1, r2, r3) := by rw [if_neg (show ¬ (false = true) by decide)] at H; exact H
              clear H
              have H := H1
              clear H1
              have H' := Aside0.mk H
              clear H
              have hnb68 := NB104_101.out
              have hnc68 := NB101_104.out
              have hnb69 := NB104_108.out
              have hnc69 := NB108_104.out
              have hcz70_0 : wr.cell? ⟨gb104, 0, none⟩ = some (.int .i64 x105000_1) := (blk_cell BK104.out 0).trans rfl
              have hcz70_1 : wr.cell? ⟨gb104, 1, none⟩ = some (.int .i64 x105001_1) := (blk_cell BK104.out 1).trans rfl
              have hfz70_0 := blk_frozen BK104.out 0
              have hfz70_1 := blk_frozen BK104.out 1
              have hnb71 := NB108_101.out
              have hnc71 := NB101_108.out
              have hcz72_0 : wr.cell? ⟨gb108, 0, none⟩ = some (.int .i64 x109000_2) := (blk_cell BK108.out 0).trans rfl
              have hcz72_1 : wr.cell? ⟨gb108, 1, none⟩ = some (.int .i64 x109001_2) := (blk_cell BK108.out 1).trans rfl
              have hfz72_0 := blk_frozen BK108.out 0
              have hfz72_1 := blk_frozen BK108.out 1
              go_wp2_with (first | (go_at_call 28; (with_reducible refine (wear_less.calls x105000_1 x105001_1 x109000_2 x109001_2 false _ A58.out).mono ?_); rintro e w73 ⟨rfl, hb⟩; have n0_ := Aside0.mk (bkB BK101 hb); have n1_ := Aside0.mk (bkB BK104 hb); have n2_ := Aside0.mk (bkB BK108 hb); have n3_ := Aside0.mk (below_step (by repeat (first | (with_reducible first | exact HB.out | apply below_alloc | apply pw_below_drewN | apply below_drew1 | refine below_set ?_ GE101.out | refine below_set ?_ GE104.out | refine below_set ?_ GE108.out) | exact HB.out)) hb); clear BK101; clear BK104; clear BK108; clear HB; have BK101 := n0_; have BK104 := n1_; have BK108 := n2_; have HB := n3_; clear n0_ n1_ n2_ n3_; (try clear hb); (try clear hb2); (try clear hk); (try clear hi)))
              go_roundg k2
              case measure => have := HK1.out; have := HK2.out; omega
              case rel => exact ⟨(wrap64 (x26_1 + 1)), (x105000_1), (x105001_1), (by first | rfl | (simp; done) | (simp [*]; done)), H', ⟨by have := HK1.out; have := HK2.out; omega⟩, ⟨bkU BK101⟩, ⟨bkU BK104⟩, ⟨by repeat (first | (with_reducible first | exact HB.out | apply below_alloc | apply pw_below_drewN | apply below_drew1 | refine below_set ?_ GE101.out | refine below_set ?_ GE104.out | refine below_set ?_ GE108.out) | exact HB.out)⟩⟩
            subst c59
            have H1 : (wear_Between.l0 k2 l0 a1 (wrap64 (a1 + 1)) (wrap64 (x26_1 + 1)) x109000_2 x109001_2) = some (r1, r2, r3) := by rw [if_pos rfl] at H; exact H
            clear H
            have H := H1
            clear H1
            have H' := Aside0.mk H
            clear H
            have hnb60 := NB104_101.out
            have hnc60 := NB101_104.out
            have hnb61 := NB104_108.out
            have hnc61 := NB108_104.out
            have hcz62_0 : wr.cell? ⟨gb104, 0, none⟩ = some (.int .i64 x105000_1) := (blk_cell BK104.out 0).trans rfl
            have hcz62_1 : wr.cell? ⟨gb104, 1, none⟩ = some (.int .i64 x105001_1) := (blk_cell BK104.out 1).trans rfl
            have hfz62_0 := blk_frozen BK104.out 0
            have hfz62_1 := blk_frozen BK104.out 1
            have hnb63 := NB108_101.out
            have hnc63 := NB101_108.out
            have hcz64_0 : wr.cell? ⟨gb108, 0, none⟩ = some (.int .i64 x109000_2) := (blk_cell BK108.out 0).trans rfl
            have hcz64_1 : wr.cell? ⟨gb108, 1, none⟩ = some (.int .i64 x109001_2) := (blk_cell BK108.out 1).trans rfl
            have hfz64_0 := blk_frozen BK108.out 0
            have hfz64_1 := blk_frozen BK108.out 1
            go_wp2_with (first | (go_at_call 28; (with_reducible refine (wear_less.calls x105000_1 x105001_1 x109000_2 x109001_2 true _ A58.out).mono ?_); rintro e w65 ⟨rfl, hb⟩; have n0_ := Aside0.mk (bkB BK101 hb); have n1_ := Aside0.mk (bkB BK104 hb); have n2_ := Aside0.mk (bkB BK108 hb); have n3_ := Aside0.mk (below_step (by repeat (first | (with_reducible first | exact HB.out | apply below_alloc | apply pw_below_drewN | apply below_drew1 | refine below_set ?_ GE101.out | refine below_set ?_ GE104.out | refine below_set ?_ GE108.out) | exact HB.out)) hb); clear BK101; clear BK104; clear BK108; clear HB; have BK101 := n0_; have BK104 := n1_; have BK108 := n2_; have HB := n3_; clear n0_ n1_ n2_ n3_; (try clear hb); (try clear hb2); (try clear hk); (try clear hi); have hcz66_0 : w65.cell? ⟨gb108, 0, none⟩ = some (.int .i64 x109000_2) := (blk_cell BK108.out 0).trans rfl; have hcz66_1 : w65.cell? ⟨gb108, 1, none⟩ = some (.int .i64 x109001_2) := (blk_cell BK108.out 1).trans rfl; have hfz66_0 := blk_frozen BK108.out 0; have hfz66_1 := blk_frozen BK108.out 1; have hcz67_0 : w65.cell? ⟨gb104, 0, none⟩ = some (.int .i64 x105000_1) := (blk_cell BK104.out 0).trans rfl; have hcz67_1 : w65.cell? ⟨gb104, 1, none⟩ = some (.int .i64 x105001_1) := (blk_cell BK104.out 1).trans rfl; have hfz67_0 := blk_frozen BK104.out 0; have hfz67_1 := blk_frozen BK104.out 1))
            go_roundg k2
            case measure => have := HK1.out; have := HK2.out; omega
            case rel => exact ⟨(wrap64 (x26_1 + 1)), (x109000_2), (x109001_2), (by first | rfl | (simp; done) | (simp [*]; done)), H', ⟨by have := HK1.out; have := HK2.out; omega⟩, ⟨by (with_reducible repeat (first | refine blk_drewN ?_ _ | refine blk_drew ?_ | refine blk_alloc ?_ _)); refine blk_far ?_ NB101_104.out _; (with_reducible repeat (first | refine blk_drewN ?_ _ | refine blk_drew ?_ | refine blk_alloc ?_ _)); refine blk_far ?_ NB101_104.out _; (with_reducible repeat (first | refine blk_drewN ?_ _ | refine blk_drew ?_ | refine blk_alloc ?_ _)); exact BK101.out⟩, ⟨by (with_reducible repeat (first | refine blk_drewN ?_ _ | refine blk_drew ?_ | refine blk_alloc ?_ _)); refine blk_put (cs := #[.int .i64 x109000_2, .int .i64 x105001_1]) ?_ 1 _ rfl; (with_reducible repeat (first | refine blk_drewN ?_ _ | refine blk_drew ?_ | refine blk_alloc ?_ _)); refine blk_put (cs := #[.int .i64 x105000_1, .int .i64 x105001_1]) ?_ 0 _ rfl; (with_reducible repeat (first | refine blk_drewN ?_ _ | refine blk_drew ?_ | refine blk_alloc ?_ _)); exact BK104.out⟩, ⟨by repeat (first | (with_reducible first | exact HB.out | apply below_alloc | apply pw_below_drewN | apply below_drew1 | refine below_set ?_ GE101.out | refine below_set ?_ GE104.out | refine below_set ?_ GE108.out) | exact HB.out)⟩⟩
          rw [if_pos c21] at H
          have c21b0 : decide (x9_2 < (l0.length : Int)) = true := decide_eq_true c21
          clear c21
          by_cases c22 : 0 ≤ x26_1
          rotate_left
          · rw [if_neg c22] at H
            exact absurd H (by simp)
          rw [if_pos c22] at H
          have c22b0 := eq_true c22
          have c22b1 : decide (0 ≤ x26_1) = true := decide_eq_true c22
          clear c22
          by_cases c23 : x26_1 ≤ (wrap64 (x9_2 + 1))
          rotate_left
          · rw [if_neg c23] at H
            exact absurd H (by simp)
          rw [if_pos c23] at H
          have c23b0 := eq_true c23
          have c23b1 : decide (x26_1 ≤ (wrap64 (x9_2 + 1))) = true := decide_eq_true c23
          by_cases c24 : (wrap64 (x9_2 + 1)) ≤ (l0.length : Int)
          rotate_left
          · rw [if_neg c24] at H
            exact absurd H (by simp)
          rw [if_pos c24] at H
          have c24b0 := eq_true c24
          have c24b1 : decide ((wrap64 (x9_2 + 1)) ≤ (l0.length : Int)) = true := decide_eq_true c24
          replace H := Option.bind_eq_some_iff.mp H
          obtain ⟨⟨t111, t112⟩, A250, H⟩ := H
          replace H : ((wear_less.f t111 t112 x109000_2 x109001_2).bind fun t114 => (if t114 = true then (wear_Between.l1 k2 l0 a1 x26_1 (wrap64 (x9_2 + 1)) (wrap64 (a1 + 1)) x26_1 x105000_1 x105001_1 t111 t112) else (wear_Between.l1 k2 l0 a1 x26_1 (wrap64 (x9_2 + 1)) (wrap64 (a1 + 1)) x26_1 x105000_1 x105001_1 x109000_2 x109001_2))) = some (r1, r2, r3) := H
          have A25 := Aside0.mk A250
          clear A250
          replace H := Option.bind_eq_some_iff.mp H
          obtain ⟨t114, A260, H⟩ := H
          replace H : (if t114 = true then (wear_Between.l1 k2 l0 a1 x26_1 (wrap64 (x9_2 + 1)) (wrap64 (a1 + 1)) x26_1 x105000_1 x105001_1 t111 t112) else (wear_Between.l1 k2 l0 a1 x26_1 (wrap64 (x9_2 + 1)) (wrap64 (a1 + 1)) x26_1 x105000_1 x105001_1 x109000_2 x109001_2)) = some (r1, r2, r3) := H
          have A26 := Aside0.mk A260
          clear A260
          by_cases c27 : t114 = true
          rotate_left
          · replace c27 := Bool.eq_false_iff.mpr c27
            subst c27
            have H1 : (wear_Between.l1 k2 l0 a1 x26_1 (wrap64 (x9_2 + 1)) (wrap64 (a1 + 1)) x26_1 x105000_1 x105001_1 x109000_2 x109001_2) = some (r1, r2, r3) := by rw [if_neg (show ¬ (false = true) by decide)] at H; exact H
            clear H
            have H := H1
            clear H1
            have H' := Aside0.mk H
            clear H
            obtain ⟨i041, hi041, _, hsz41, _⟩ := info_parts info3
            obtain ⟨A41, hcut41, hA41, hC41⟩ := print_mid_of (P := Try.prog) (Value.int .i64) 0 22 3 .i64 .i64 Try.underlying22 hi041 hsz41 A0 c0 l0 x26_1 (wrap64 (x9_2 + 1)) (of_decide_eq_true (by first | (with_reducible assumption) | assumption)) (by first | omega | exact of_decide_eq_true (by first | (with_reducible assumption) | assumption)) (of_decide_eq_true (by first | (with_reducible assumption) | assumption)) HC0.out
            have HR110 := Aside0.mk (Kd.C_of_reads (h1 := fun _ => rfl) (hA41 _ (Kd.reads_of_C HR0.out)))
            have HC110 := Aside0.mk hC41
            clear hA41 hC41 hi041 hsz41
            go_wp2_with (first | ((with_reducible refine gate_callee (f := 27) rfl ?_); refine goesL_ (some 48) rfl rfl Try.func27 (by kernel_rfl) rfl #[.slice A41 ((l0.take ((wrap64 (x9_2 + 1)) : Int).toNat).drop (x26_1 : Int).toNat).length (c0 - x26_1.toNat)] rfl (by (try simp only [List.map_toArray, List.map_cons, List.map_nil]); first | done | (rw [show ((l0.take ((wrap64 (x9_2 + 1)) : Int).toNat).drop (x26_1 : Int).toNat).length = ((wrap64 (x9_2 + 1)).toNat - x26_1.toNat) from (by rw [List.length_drop, List.length_take]; have h_ : ((wrap64 (x9_2 + 1)) : Int) ≤ (l0.length : Int) := of_decide_eq_true (by first | (with_reducible assumption) | assumption); omega)] <;> rfl) | rfl | (simp only [List.length_drop, List.length_take]; rfl)) ?_; (with_reducible refine (wear_mean.calls k2 _ _ ((l0.take ((wrap64 (x9_2 + 1)) : Int).toNat).drop (x26_1 : Int).toNat) t111 t112 _ ?side1 ?side2 A25.out).mono ?_); (case side1 => repeat (first | exact (Kd.C_below HR110.out HB.out) | (with_reducible refine Kd.C_alloc ?_ _) | (with_reducible refine Kd.C_drewN ?_ _) | (with_reducible refine Kd.C_drew ?_))); (case side2 => exact HC110.out); rintro e w42 ⟨rfl, hb⟩; refine ⟨_, rfl, ?_⟩; have n0_ := Aside0.mk (bkB BK101 hb); have n1_ := Aside0.mk (bkB BK104 hb); have n2_ := Aside0.mk (bkB BK108 hb); have n3_ := Aside0.mk (below_step (by repeat (first | (with_reducible first | exact HB.out | apply below_alloc | apply pw_below_drewN | apply below_drew1 | refine below_set ?_ GE101.out | refine below_set ?_ GE104.out | refine below_set ?_ GE108.out) | exact HB.out)) hb); clear BK101; clear BK104; clear BK108; clear HB; have BK101 := n0_; have BK104 := n1_; have BK108 := n2_; have HB := n3_; clear n0_ n1_ n2_ n3_; (try clear hb); (try clear hb2); (try clear hk); (try clear hi)) | ((with_reducible refine gate_dst (N := 10) rfl ?_); refine box_event ?hg (N := 10) ?hd (cs := #[.int .i64 0, .int .i64 0]) (t := 35) ?hr ?_; (case hd => rfl); (case hg => rfl); (case hr => first | (go_simp; done) | (go_simp; rfl)); intro gb113 hg w43 hbox hb; have n0_ := Aside0.mk (bkB BK101 hb); have n1_ := Aside0.mk (bkB BK104 hb); have n2_ := Aside0.mk (bkB BK108 hb); have n3_ := Aside0.mk (below_step (by repeat (first | (with_reducible first | exact HB.out | apply below_alloc | apply pw_below_drewN | apply below_drew1 | refine below_set ?_ GE101.out | refine below_set ?_ GE104.out | refine below_set ?_ GE108.out) | exact HB.out)) hb); have n4_ := Aside0.mk (hbox); have n5_ := Aside0.mk ((by rw [hg]; exact (below_size (by repeat (first | (with_reducible first | exact HB.out | apply below_alloc | apply pw_below_drewN | apply below_drew1 | refine below_set ?_ GE101.out | refine below_set ?_ GE104.out | refine below_set ?_ GE108.out) | exact HB.out))) : w.heap.size ≤ gb113)); have n6_ := Aside0.mk ((by rw [hg]; exact (below_size (by repeat (first | (with_reducible first | exact HB.out | apply below_alloc | apply pw_below_drewN | apply below_drew1 | refine below_set ?_ GE101.out | refine below_set ?_ GE104.out | refine below_set ?_ GE108.out) | exact HB.out))) : w.heap.size ≤ gb113)); have n7_ := Aside0.mk ((bkL BK101 hg : gb101 ≠ gb113)); have n8_ := Aside0.mk ((bkG BK101 hg : gb113 ≠ gb101)); have n9_ := Aside0.mk ((bkL BK104 hg : gb104 ≠ gb113)); have n10_ := Aside0.mk ((bkG BK104 hg : gb113 ≠ gb104)); have n11_ := Aside0.mk ((bkL BK108 hg : gb108 ≠ gb113)); have n12_ := Aside0.mk ((bkG BK108 hg : gb113 ≠ gb108)); clear BK101; clear BK104; clear BK108; clear HB; have BK101 := n0_; have BK104 := n1_; have BK108 := n2_; have HB := n3_; have BK113 := n4_; have GW113 := n5_; have GE113 := n6_; have NB101_113 := n7_; have NB113_101 := n8_; have NB104_113 := n9_; have NB113_104 := n10_; have NB108_113 := n11_; have NB113_108 := n12_; clear n0_ n1_ n2_ n3_ n4_ n5_ n6_ n7_ n8_ n9_ n10_ n11_ n12_; clear hb hbox hg; have hnb44 := NB113_101.out; have hnc44 := NB101_113.out; have hnb45 := NB113_104.out; have hnc45 := NB104_113.out; have hnb46 := NB113_108.out; have hnc46 := NB108_113.out; have hcz47_0 : w43.cell? ⟨gb113, 0, none⟩ = some (.int .i64 0) := (blk_cell BK113.out 0).trans rfl; have hcz47_1 : w43.cell? ⟨gb113, 1, none⟩ = some (.int .i64 0) := (blk_cell BK113.out 1).trans rfl; have hfz47_0 := blk_frozen BK113.out 0; have hfz47_1 := blk_frozen BK113.out 1; have hnb48 := NB108_101.out; have hnc48 := NB101_108.out; have hnb49 := NB108_104.out; have hnc49 := NB104_108.out; have hcz50_0 : w43.cell? ⟨gb108, 0, none⟩ = some (.int .i64 x109000_2) := (blk_cell BK108.out 0).trans rfl; have hcz50_1 : w43.cell? ⟨gb108, 1, none⟩ = some (.int .i64 x109001_2) := (blk_cell BK108.out 1).trans rfl; have hfz50_0 := blk_frozen BK108.out 0; have hfz50_1 := blk_frozen BK108.out 1) | ((with_reducible refine gate_callee (f := 28) rfl ?_); refine goesL_ (some 51) rfl rfl Try.func28 (by kernel_rfl) rfl #[.agg #[.int .i64 t111, .int .i64 t112], .agg #[.int .i64 x109000_2, .int .i64 x109001_2]] rfl (by (try simp only [List.map_toArray, List.map_cons, List.map_nil]); first | done | rfl | (simp only [List.length_drop, List.length_take]; rfl)) ?_; (with_reducible refine (wear_less.calls t111 t112 x109000_2 x109001_2 false _ A26.out).mono ?_); rintro e w51 ⟨rfl, hb⟩; refine ⟨_, rfl, ?_⟩; have n0_ := Aside0.mk (blk_below (g := gb101) (o := .cells #[.int .i64 0, .int .i64 0] 35 (0, 0)) (bkF2 BK101 NB101_113) hb); have n1_ := Aside0.mk (blk_below (g := gb104) (o := .cells #[.int .i64 x105000_1, .int .i64 x105001_1] 35 (0, 0)) (bkF2 BK104 NB104_113) hb); have n2_ := Aside0.mk (blk_below (g := gb108) (o := .cells #[.int .i64 x109000_2, .int .i64 x109001_2] 35 (0, 0)) (bkF2 BK108 NB108_113) hb); have n3_ := Aside0.mk (blk_below (g := gb113) (o := .cells #[.int .i64 t111, .int .i64 t112] 35 (0, 0)) (by (with_reducible repeat (first | refine blk_drewN ?_ _ | refine blk_drew ?_ | refine blk_alloc ?_ _)); refine blk_put (cs := #[.int .i64 t111, .int .i64 0]) ?_ 1 _ rfl; (with_reducible repeat (first | refine blk_drewN ?_ _ | refine blk_drew ?_ | refine blk_alloc ?_ _)); refine blk_put (cs := #[.int .i64 0, .int .i64 0]) ?_ 0 _ rfl; (with_reducible repeat (first | refine blk_drewN ?_ _ | refine blk_drew ?_ | refine blk_alloc ?_ _)); exact BK113.out) hb); have n4_ := Aside0.mk (below_step (by repeat (first | (with_reducible first | exact HB.out | apply below_alloc | apply pw_below_drewN | apply below_drew1 | refine below_set ?_ GE101.out | refine below_set ?_ GE104.out | refine below_set ?_ GE108.out | refine below_set ?_ GE113.out) | exact HB.out)) hb); clear BK101; clear BK104; clear BK108; clear BK113; clear HB; have BK101 := n0_; have BK104 := n1_; have BK108 := n2_; have BK113 := n3_; have HB := n4_; clear n0_ n1_ n2_ n3_ n4_; (try clear hb); (try clear hb2); (try clear hk); (try clear hi)))
            go_roundg k2
            case measure => have := HK1.out; have := HK2.out; omega
            case rel => exact ⟨(wrap64 (x9_2 + 1)), (x109000_2), (x109001_2), (by first | rfl | (simp; done) | (simp [*]; done)), H', ⟨by have := HK1.out; have := HK2.out; omega⟩, ⟨bkU BK101⟩, ⟨bkU BK104⟩, ⟨bkU BK108⟩, ⟨by repeat (first | (with_reducible first | exact HB.out | apply below_alloc | apply pw_below_drewN | apply below_drew1 | refine below_set ?_ GE101.out | refine below_set ?_ GE104.out | refine below_set ?_ GE108.out | refine below_set ?_ GE113.out) | exact HB.out)⟩⟩
          subst c27
          have H1 : (wear_Between.l1 k2 l0 a1 x26_1 (wrap64 (x9_2 + 1)) (wrap64 (a1 + 1)) x26_1 x105000_1 x105001_1 t111 t112) = some (r1, r2, r3) := by rw [if_pos rfl] at H; exact H
          clear H
          have H := H1
          clear H1
          have H' := Aside0.mk H
          clear H
          obtain ⟨i028, hi028, _, hsz28, _⟩ := info_parts info3
          obtain ⟨A28, hcut28, hA28, hC28⟩ := print_mid_of (P := Try.prog) (Value.int .i64) 0 22 3 .i64 .i64 Try.underlying22 hi028 hsz28 A0 c0 l0 x26_1 (wrap64 (x9_2 + 1)) (of_decide_eq_true (by first | (with_reducible assumption) | assumption)) (by first | omega | exact of_decide_eq_true (by first | (with_reducible assumption) | assumption)) (of_decide_eq_true (by first | (with_reducible assumption) | assumption)) HC0.out
          have HR110 := Aside0.mk (Kd.C_of_reads (h1 := fun _ => rfl) (hA28 _ (Kd.reads_of_C HR0.out)))
          have HC110 := Aside0.mk hC28
          clear hA28 hC28 hi028 hsz28
          go_wp2_with (first | ((with_reducible refine gate_callee (f := 27) rfl ?_); refine goesL_ (some 48) rfl rfl Try.func27 (by kernel_rfl) rfl #[.slice A28 ((l0.take ((wrap64 (x9_2 + 1)) : Int).toNat).drop (x26_1 : Int).toNat).length (c0 - x26_1.toNat)] rfl (by (try simp only [List.map_toArray, List.map_cons, List.map_nil]); first | done | (rw [show ((l0.take ((wrap64 (x9_2 + 1)) : Int).toNat).drop (x26_1 : Int).toNat).length = ((wrap64 (x9_2 + 1)).toNat - x26_1.toNat) from (by rw [List.length_drop, List.length_take]; have h_ : ((wrap64 (x9_2 + 1)) : Int) ≤ (l0.length : Int) := of_decide_eq_true (by first | (with_reducible assumption) | assumption); omega)] <;> rfl) | rfl | (simp only [List.length_drop, List.length_take]; rfl)) ?_; (with_reducible refine (wear_mean.calls k2 _ _ ((l0.take ((wrap64 (x9_2 + 1)) : Int).toNat).drop (x26_1 : Int).toNat) t111 t112 _ ?side1 ?side2 A25.out).mono ?_); (case side1 => repeat (first | exact (Kd.C_below HR110.out HB.out) | (with_reducible refine Kd.C_alloc ?_ _) | (with_reducible refine Kd.C_drewN ?_ _) | (with_reducible refine Kd.C_drew ?_))); (case side2 => exact HC110.out); rintro e w29 ⟨rfl, hb⟩; refine ⟨_, rfl, ?_⟩; have n0_ := Aside0.mk (bkB BK101 hb); have n1_ := Aside0.mk (bkB BK104 hb); have n2_ := Aside0.mk (bkB BK108 hb); have n3_ := Aside0.mk (below_step (by repeat (first | (with_reducible first | exact HB.out | apply below_alloc | apply pw_below_drewN | apply below_drew1 | refine below_set ?_ GE101.out | refine below_set ?_ GE104.out | refine below_set ?_ GE108.out) | exact HB.out)) hb); clear BK101; clear BK104; clear BK108; clear HB; have BK101 := n0_; have BK104 := n1_; have BK108 := n2_; have HB := n3_; clear n0_ n1_ n2_ n3_; (try clear hb); (try clear hb2); (try clear hk); (try clear hi)) | ((with_reducible refine gate_dst (N := 10) rfl ?_); refine box_event ?hg (N := 10) ?hd (cs := #[.int .i64 0, .int .i64 0]) (t := 35) ?hr ?_; (case hd => rfl); (case hg => rfl); (case hr => first | (go_simp; done) | (go_simp; rfl)); intro gb113 hg w30 hbox hb; have n0_ := Aside0.mk (bkB BK101 hb); have n1_ := Aside0.mk (bkB BK104 hb); have n2_ := Aside0.mk (bkB BK108 hb); have n3_ := Aside0.mk (below_step (by repeat (first | (with_reducible first | exact HB.out | apply below_alloc | apply pw_below_drewN | apply below_drew1 | refine below_set ?_ GE101.out | refine below_set ?_ GE104.out | refine below_set ?_ GE108.out) | exact HB.out)) hb); have n4_ := Aside0.mk (hbox); have n5_ := Aside0.mk ((by rw [hg]; exact (below_size (by repeat (first | (with_reducible first | exact HB.out | apply below_alloc | apply pw_below_drewN | apply below_drew1 | refine below_set ?_ GE101.out | refine below_set ?_ GE104.out | refine below_set ?_ GE108.out) | exact HB.out))) : w.heap.size ≤ gb113)); have n6_ := Aside0.mk ((by rw [hg]; exact (below_size (by repeat (first | (with_reducible first | exact HB.out | apply below_alloc | apply pw_below_drewN | apply below_drew1 | refine below_set ?_ GE101.out | refine below_set ?_ GE104.out | refine below_set ?_ GE108.out) | exact HB.out))) : w.heap.size ≤ gb113)); have n7_ := Aside0.mk ((bkL BK101 hg : gb101 ≠ gb113)); have n8_ := Aside0.mk ((bkG BK101 hg : gb113 ≠ gb101)); have n9_ := Aside0.mk ((bkL BK104 hg : gb104 ≠ gb113)); have n10_ := Aside0.mk ((bkG BK104 hg : gb113 ≠ gb104)); have n11_ := Aside0.mk ((bkL BK108 hg : gb108 ≠ gb113)); have n12_ := Aside0.mk ((bkG BK108 hg : gb113 ≠ gb108)); clear BK101; clear BK104; clear BK108; clear HB; have BK101 := n0_; have BK104 := n1_; have BK108 := n2_; have HB := n3_; have BK113 := n4_; have GW113 := n5_; have GE113 := n6_; have NB101_113 := n7_; have NB113_101 := n8_; have NB104_113 := n9_; have NB113_104 := n10_; have NB108_113 := n11_; have NB113_108 := n12_; clear n0_ n1_ n2_ n3_ n4_ n5_ n6_ n7_ n8_ n9_ n10_ n11_ n12_; clear hb hbox hg; have hnb31 := NB113_101.out; have hnc31 := NB101_113.out; have hnb32 := NB113_104.out; have hnc32 := NB104_113.out; have hnb33 := NB113_108.out; have hnc33 := NB108_113.out; have hcz34_0 : w30.cell? ⟨gb113, 0, none⟩ = some (.int .i64 0) := (blk_cell BK113.out 0).trans rfl; have hcz34_1 : w30.cell? ⟨gb113, 1, none⟩ = some (.int .i64 0) := (blk_cell BK113.out 1).trans rfl; have hfz34_0 := blk_frozen BK113.out 0; have hfz34_1 := blk_frozen BK113.out 1; have hnb35 := NB108_101.out; have hnc35 := NB101_108.out; have hnb36 := NB108_104.out; have hnc36 := NB104_108.out; have hcz37_0 : w30.cell? ⟨gb108, 0, none⟩ = some (.int .i64 x109000_2) := (blk_cell BK108.out 0).trans rfl; have hcz37_1 : w30.cell? ⟨gb108, 1, none⟩ = some (.int .i64 x109001_2) := (blk_cell BK108.out 1).trans rfl; have hfz37_0 := blk_frozen BK108.out 0; have hfz37_1 := blk_frozen BK108.out 1) | ((with_reducible refine gate_callee (f := 28) rfl ?_); refine goesL_ (some 51) rfl rfl Try.func28 (by kernel_rfl) rfl #[.agg #[.int .i64 t111, .int .i64 t112], .agg #[.int .i64 x109000_2, .int .i64 x109001_2]] rfl (by (try simp only [List.map_toArray, List.map_cons, List.map_nil]); first | done | rfl | (simp only [List.length_drop, List.length_take]; rfl)) ?_; (with_reducible refine (wear_less.calls t111 t112 x109000_2 x109001_2 true _ A26.out).mono ?_); rintro e w38 ⟨rfl, hb⟩; refine ⟨_, rfl, ?_⟩; have n0_ := Aside0.mk (blk_below (g := gb101) (o := .cells #[.int .i64 0, .int .i64 0] 35 (0, 0)) (bkF2 BK101 NB101_113) hb); have n1_ := Aside0.mk (blk_below (g := gb104) (o := .cells #[.int .i64 x105000_1, .int .i64 x105001_1] 35 (0, 0)) (bkF2 BK104 NB104_113) hb); have n2_ := Aside0.mk (blk_below (g := gb108) (o := .cells #[.int .i64 x109000_2, .int .i64 x109001_2] 35 (0, 0)) (bkF2 BK108 NB108_113) hb); have n3_ := Aside0.mk (blk_below (g := gb113) (o := .cells #[.int .i64 t111, .int .i64 t112] 35 (0, 0)) (by (with_reducible repeat (first | refine blk_drewN ?_ _ | refine blk_drew ?_ | refine blk_alloc ?_ _)); refine blk_put (cs := #[.int .i64 t111, .int .i64 0]) ?_ 1 _ rfl; (with_reducible repeat (first | refine blk_drewN ?_ _ | refine blk_drew ?_ | refine blk_alloc ?_ _)); refine blk_put (cs := #[.int .i64 0, .int .i64 0]) ?_ 0 _ rfl; (with_reducible repeat (first | refine blk_drewN ?_ _ | refine blk_drew ?_ | refine blk_alloc ?_ _)); exact BK113.out) hb); have n4_ := Aside0.mk (below_step (by repeat (first | (with_reducible first | exact HB.out | apply below_alloc | apply pw_below_drewN | apply below_drew1 | refine below_set ?_ GE101.out | refine below_set ?_ GE104.out | refine below_set ?_ GE108.out | refine below_set ?_ GE113.out) | exact HB.out)) hb); clear BK101; clear BK104; clear BK108; clear BK113; clear HB; have BK101 := n0_; have BK104 := n1_; have BK108 := n2_; have BK113 := n3_; have HB := n4_; clear n0_ n1_ n2_ n3_ n4_; (try clear hb); (try clear hb2); (try clear hk); (try clear hi); have hcz39_0 : w38.cell? ⟨gb113, 0, none⟩ = some (.int .i64 t111) := (blk_cell BK113.out 0).trans rfl; have hcz39_1 : w38.cell? ⟨gb113, 1, none⟩ = some (.int .i64 t112) := (blk_cell BK113.out 1).trans rfl; have hfz39_0 := blk_frozen BK113.out 0; have hfz39_1 := blk_frozen BK113.out 1; have hcz40_0 : w38.cell? ⟨gb108, 0, none⟩ = some (.int .i64 x109000_2) := (blk_cell BK108.out 0).trans rfl; have hcz40_1 : w38.cell? ⟨gb108, 1, none⟩ = some (.int .i64 x109001_2) := (blk_cell BK108.out 1).trans rfl; have hfz40_0 := blk_frozen BK108.out 0; have hfz40_1 := blk_frozen BK108.out 1))
          go_roundg k2
          case measure => have := HK1.out; have := HK2.out; omega
          case rel => exact ⟨(wrap64 (x9_2 + 1)), (t111), (t112), (by first | rfl | (simp; done) | (simp [*]; done)), H', ⟨by have := HK1.out; have := HK2.out; omega⟩, ⟨by (with_reducible repeat (first | refine blk_drewN ?_ _ | refine blk_drew ?_ | refine blk_alloc ?_ _)); refine blk_far ?_ NB101_108.out _; (with_reducible repeat (first | refine blk_drewN ?_ _ | refine blk_drew ?_ | refine blk_alloc ?_ _)); refine blk_far ?_ NB101_108.out _; (with_reducible repeat (first | refine blk_drewN ?_ _ | refine blk_drew ?_ | refine blk_alloc ?_ _)); exact BK101.out⟩, ⟨by (with_reducible repeat (first | refine blk_drewN ?_ _ | refine blk_drew ?_ | refine blk_alloc ?_ _)); refine blk_far ?_ NB104_108.out _; (with_reducible repeat (first | refine blk_drewN ?_ _ | refine blk_drew ?_ | refine blk_alloc ?_ _)); refine blk_far ?_ NB104_108.out _; (with_reducible repeat (first | refine blk_drewN ?_ _ | refine blk_drew ?_ | refine blk_alloc ?_ _)); exact BK104.out⟩, ⟨by (with_reducible repeat (first | refine blk_drewN ?_ _ | refine blk_drew ?_ | refine blk_alloc ?_ _)); refine blk_put (cs := #[.int .i64 t111, .int .i64 x109001_2]) ?_ 1 _ rfl; (with_reducible repeat (first | refine blk_drewN ?_ _ | refine blk_drew ?_ | refine blk_alloc ?_ _)); refine blk_put (cs := #[.int .i64 x109000_2, .int .i64 x109001_2]) ?_ 0 _ rfl; (with_reducible repeat (first | refine blk_drewN ?_ _ | refine blk_drew ?_ | refine blk_alloc ?_ _)); exact BK108.out⟩, ⟨by repeat (first | (with_reducible first | exact HB.out | apply below_alloc | apply pw_below_drewN | apply below_drew1 | refine below_set ?_ GE101.out | refine below_set ?_ GE104.out | refine below_set ?_ GE108.out | refine below_set ?_ GE113.out) | exact HB.out)⟩⟩
end Go.Proofs.Ytklapbgajghhcaa.G
end
