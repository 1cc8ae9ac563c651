-- Written by this session's driver (wip/tools/printmore.py) over the kit's print, with hand-written parts.
import Derived.Test.YtiebfmenkpodeaaGBase
import Derived.Test.YtiebfmenkpodeaaGF28
import Derived.Test.YtiebfmenkpodeaaGF31
import Derived.Test.YtiebfmenkpodeaaGF18
import Derived.Test.YtiebfmenkpodeaaGF23
import Derived.Test.YtiebfmenkpodeaaGF32
import Derived.Test.YtiebfmenkpodeaaGF33
import Derived.Test.YtiebfmenkpodeaaGF47
import Derived.Test.YtiebfmenkpodeaaGF48
import Derived.Test.YtiebfmenkpodeaaGF49
namespace Go.Proofs.Ytiebfmenkpodeaa.G
open Go.RowKit Go.Proofs.YtiebfmenkpodeaaW.PrintWords Go.Proofs.YtiebfmenkpodeaaW.PrintLast Go.Proofs.YtiebfmenkpodeaaW.PrintMore
attribute [local go_sem] max2_int min2_int max_two min_two max_three min_three max_four min_four   -- for this text's walks alone
set_option linter.unusedVariables false
set_option linter.unusedSimpArgs false

/-! ### dropperlaw04_PullBests: function 11 -/
mutual
def dropperlaw04_PullBests.j0 : Nat → List Int → Bool → Int → Int → Option (Bool)
  | 0, _, _, _, _ => none
  | k + 1, x0, x38, x102000, x102001 => if x38 = true then (some false) else ((pull_Most.f k x0 x102000 x102001).bind fun bt113 => ((dropperref04_Most.f k x0 x102000 x102001).bind fun bt117 => (if bt113.2 = bt117.2 then ((dropperlaw04_SameInts.f k bt113.1 bt117.1).bind fun t121 => (dropperlaw04_PullBests.j1 k x0 (!t121) x102000 x102001)) else (dropperlaw04_PullBests.j1 k x0 true x102000 x102001))))
def dropperlaw04_PullBests.j1 : Nat → List Int → Bool → Int → Int → Option (Bool)
  | 0, _, _, _, _ => none
  | k + 1, x0, x65, x102000, x102001 => if x65 = true then (some false) else ((pull_Evenest.f k x0 x102000 x102001).bind fun bt122 => ((dropperref04_Evenest.f k x0 x102000 x102001).bind fun bt126 => (if bt122.2 = bt126.2 then ((dropperlaw04_SameInts.f k bt122.1 bt126.1).bind fun t130 => (if t130 = true then ((dropperlaw04_Awake.f k).bind fun t131 => (some t131)) else (some false))) else (some false))))
end
def dropperlaw04_PullBests.f (k : Nat) (l0 : List Int) (a1_0 : Int) (a1_1 : Int) : Option (Bool) := (dropperlaw04_long.f l0 ([] : List Int)).bind fun t102 => (if t102 = true then ((dropperlaw04_Awake.f k).bind fun t103 => (some t103)) else ((pull_Fewest.f k l0 a1_0 a1_1).bind fun bt104 => ((dropperref04_Fewest.f k l0 a1_0 a1_1).bind fun bt108 => (if bt104.2 = bt108.2 then ((dropperlaw04_SameInts.f k bt104.1 bt108.1).bind fun t112 => (dropperlaw04_PullBests.j0 k l0 (!t112) a1_0 a1_1)) else (dropperlaw04_PullBests.j0 k l0 true a1_0 a1_1)))))
theorem dropperlaw04_PullBests.mono_l : ∀ k, (∀ y0 y1 y2 y3, LeO (dropperlaw04_PullBests.j0 k y0 y1 y2 y3) (dropperlaw04_PullBests.j0 (k + 1) y0 y1 y2 y3)) ∧ (∀ y0 y1 y2 y3, LeO (dropperlaw04_PullBests.j1 k y0 y1 y2 y3) (dropperlaw04_PullBests.j1 (k + 1) y0 y1 y2 y3))
  | 0 => ⟨fun _ _ _ _ r h => by simp [dropperlaw04_PullBests.j0] at h, fun _ _ _ _ r h => by simp [dropperlaw04_PullBests.j1] at h⟩
  | k + 1 => by
    obtain ⟨ih0, ih1⟩ := dropperlaw04_PullBests.mono_l k
    refine ⟨?_, ?_⟩
    · intro y0 y1 y2 y3
      unfold dropperlaw04_PullBests.j0
      repeat' first
      | (with_reducible exact ih0 _ _ _ _)
      | (with_reducible exact ih1 _ _ _ _)
      | (with_reducible exact dropperlaw04_Awake.mono _)
      | (with_reducible exact dropperlaw04_SameInts.mono _ _ _)
      | (with_reducible exact dropperref04_Evenest.mono _ _ _ _)
      | (with_reducible exact dropperref04_Fewest.mono _ _ _ _)
      | (with_reducible exact dropperref04_Most.mono _ _ _ _)
      | (with_reducible exact pull_Evenest.mono _ _ _ _)
      | (with_reducible exact pull_Fewest.mono _ _ _ _)
      | (with_reducible exact pull_Most.mono _ _ _ _)
      | (with_reducible exact LeO.refl _)
      | (with_reducible exact LeO.none _)
      | (with_reducible refine LeO.ite ?_ ?_)
      | (with_reducible refine LeO.bind ?_ (fun _ => ?_))
      | exact ih0 _ _ _ _
      | exact ih1 _ _ _ _
      | exact dropperlaw04_Awake.mono _
      | exact dropperlaw04_SameInts.mono _ _ _
      | exact dropperref04_Evenest.mono _ _ _ _
      | exact dropperref04_Fewest.mono _ _ _ _
      | exact dropperref04_Most.mono _ _ _ _
      | exact pull_Evenest.mono _ _ _ _
      | exact pull_Fewest.mono _ _ _ _
      | exact pull_Most.mono _ _ _ _
      | exact LeO.none _
      | refine LeO.ite ?_ ?_
      | refine LeO.bind ?_ (fun _ => ?_)
    · intro y0 y1 y2 y3
      unfold dropperlaw04_PullBests.j1
      repeat' first
      | (with_reducible exact ih0 _ _ _ _)
      | (with_reducible exact ih1 _ _ _ _)
      | (with_reducible exact dropperlaw04_Awake.mono _)
      | (with_reducible exact dropperlaw04_SameInts.mono _ _ _)
      | (with_reducible exact dropperref04_Evenest.mono _ _ _ _)
      | (with_reducible exact dropperref04_Fewest.mono _ _ _ _)
      | (with_reducible exact dropperref04_Most.mono _ _ _ _)
      | (with_reducible exact pull_Evenest.mono _ _ _ _)
      | (with_reducible exact pull_Fewest.mono _ _ _ _)
      | (with_reducible exact pull_Most.mono _ _ _ _)
      | (with_reducible exact LeO.refl _)
      | (with_reducible exact LeO.none _)
      | (with_reducible refine LeO.ite ?_ ?_)
      | (with_reducible refine LeO.bind ?_ (fun _ => ?_))
      | exact ih0 _ _ _ _
      | exact ih1 _ _ _ _
      | exact dropperlaw04_Awake.mono _
      | exact dropperlaw04_SameInts.mono _ _ _
      | exact dropperref04_Evenest.mono _ _ _ _
      | exact dropperref04_Fewest.mono _ _ _ _
      | exact dropperref04_Most.mono _ _ _ _
      | exact pull_Evenest.mono _ _ _ _
      | exact pull_Fewest.mono _ _ _ _
      | exact pull_Most.mono _ _ _ _
      | exact LeO.none _
      | refine LeO.ite ?_ ?_
      | refine LeO.bind ?_ (fun _ => ?_)
theorem dropperlaw04_PullBests.mono : ∀ a0 a1 a2 k, LeO (dropperlaw04_PullBests.f k a0 a1 a2) (dropperlaw04_PullBests.f (k + 1) a0 a1 a2) := by
  intro a0 a1 a2 k
  obtain ⟨ih0, ih1⟩ := dropperlaw04_PullBests.mono_l k
  unfold dropperlaw04_PullBests.f
  repeat' first
      | (with_reducible exact ih0 _ _ _ _)
      | (with_reducible exact ih1 _ _ _ _)
      | (with_reducible exact dropperlaw04_Awake.mono _)
      | (with_reducible exact dropperlaw04_SameInts.mono _ _ _)
      | (with_reducible exact dropperref04_Evenest.mono _ _ _ _)
      | (with_reducible exact dropperref04_Fewest.mono _ _ _ _)
      | (with_reducible exact dropperref04_Most.mono _ _ _ _)
      | (with_reducible exact pull_Evenest.mono _ _ _ _)
      | (with_reducible exact pull_Fewest.mono _ _ _ _)
      | (with_reducible exact pull_Most.mono _ _ _ _)
      | (with_reducible exact LeO.refl _)
      | (with_reducible exact LeO.none _)
      | (with_reducible refine LeO.ite ?_ ?_)
      | (with_reducible refine LeO.bind ?_ (fun _ => ?_))
      | exact ih0 _ _ _ _
      | exact ih1 _ _ _ _
      | exact dropperlaw04_Awake.mono _
      | exact dropperlaw04_SameInts.mono _ _ _
      | exact dropperref04_Evenest.mono _ _ _ _
      | exact dropperref04_Fewest.mono _ _ _ _
      | exact dropperref04_Most.mono _ _ _ _
      | exact pull_Evenest.mono _ _ _ _
      | exact pull_Fewest.mono _ _ _ _
      | exact pull_Most.mono _ _ _ _
      | exact LeO.none _
      | refine LeO.ite ?_ ?_
      | refine LeO.bind ?_ (fun _ => ?_)
set_option maxHeartbeats 8000000 in
set_option maxRecDepth 100000 in
theorem dropperlaw04_PullBests.calls (k : Nat) (A0 : Option Addr) (c0 : Nat) (l0 : List Int) (a1_0 : Int) (a1_1 : Int) (r : Bool) (w : World) (hr0 : Kd.C (Kd.int .i64) w A0 l0.length l0) (hc0 : l0.length ≤ c0) (h : dropperlaw04_PullBests.f k l0 a1_0 a1_1 = some r) (hT : r = true) :
    Calls Try.prog 11 #[.slice A0 l0.length c0, .agg #[.int .i64 a1_0, .int .i64 a1_1]] w fun e w' => e = .returned (.bool r) ∧ Below w.heap.size w w' := by
  have hu39 := Try.underlying39
  have HR0 := Aside0.mk hr0
  have HC0 := Aside0.mk hc0
  clear hr0 hc0
  have HB := Aside0.mk (Below.refl w.heap.size w)
  have H : ((dropperlaw04_long.f l0 ([] : List Int)).bind fun t102 => (if t102 = true then ((dropperlaw04_Awake.f k).bind fun t103 => (some t103)) else ((pull_Fewest.f k l0 a1_0 a1_1).bind fun bt104 => ((dropperref04_Fewest.f k l0 a1_0 a1_1).bind fun bt108 => (if bt104.2 = bt108.2 then ((dropperlaw04_SameInts.f k bt104.1 bt108.1).bind fun t112 => (dropperlaw04_PullBests.j0 k l0 (!t112) a1_0 a1_1)) else (dropperlaw04_PullBests.j0 k l0 true a1_0 a1_1)))))) = some r := h
  clear h
  replace H := Option.bind_eq_some_iff.mp H
  obtain ⟨t102, A30, H⟩ := H
  replace H : (if t102 = true then ((dropperlaw04_Awake.f k).bind fun t103 => (some t103)) else ((pull_Fewest.f k l0 a1_0 a1_1).bind fun bt104 => ((dropperref04_Fewest.f k l0 a1_0 a1_1).bind fun bt108 => (if bt104.2 = bt108.2 then ((dropperlaw04_SameInts.f k bt104.1 bt108.1).bind fun t112 => (dropperlaw04_PullBests.j0 k l0 (!t112) a1_0 a1_1)) else (dropperlaw04_PullBests.j0 k l0 true a1_0 a1_1))))) = some r := H
  have A3 := Aside0.mk A30
  clear A30
  by_cases c4 : t102 = true
  · subst c4
    have H1 : ((dropperlaw04_Awake.f k).bind fun t103 => (some t103)) = some r := by rw [if_pos rfl] at H; exact H
    clear H
    have H := H1
    clear H1
    replace H := Option.bind_eq_some_iff.mp H
    obtain ⟨t103, A50, H⟩ := H
    replace H : (some t103) = some r := H
    have A5 := Aside0.mk A50
    clear A50
    clear hT
    obtain rfl := Option.some.inj H
    go_enter Try.func11, Try.ntmps11
    go_wp2_with (first | ((with_reducible refine gate_dst (N := 3) rfl ?_); refine box_event ?hg (N := 3) ?hd (cs := #[.int .i64 a1_0, .int .i64 a1_1]) (t := 39) ?hr ?_; (case hd => rfl); (case hg => rfl); (case hr => first | (go_simp; done) | (go_simp; rfl)); intro gb101 hg w6 hbox hb; have n0_ := Aside0.mk (below_step (by repeat (first | (with_reducible first | exact HB.out | apply below_alloc | apply pw_below_drewN | apply below_drew1) | exact HB.out)) hb); have n1_ := Aside0.mk (hbox); have n2_ := Aside0.mk ((by rw [hg]; exact (below_size (by repeat (first | (with_reducible first | exact HB.out | apply below_alloc | apply pw_below_drewN | apply below_drew1) | exact HB.out))) : w.heap.size ≤ gb101)); have n3_ := Aside0.mk ((by rw [hg]; exact (below_size (by repeat (first | (with_reducible first | exact HB.out | apply below_alloc | apply pw_below_drewN | apply below_drew1) | exact HB.out))) : w.heap.size ≤ gb101)); clear HB; have HB := n0_; have BK101 := n1_; have GW101 := n2_; have GE101 := n3_; clear n0_ n1_ n2_ n3_; clear hb hbox hg) | ((with_reducible refine gate_callee (f := 23) rfl ?_); refine goesL_ (some 10) rfl rfl Try.func23 (by kernel_rfl) rfl #[.slice A0 l0.length c0, .slice none 0 0] rfl (by (try simp only [List.map_toArray, List.map_cons, List.map_nil]); first | done | rfl | (simp only [List.length_drop, List.length_take]; rfl)) ?_; (refine (dropperlaw04_long.calls _ _ l0 _ _ ([] : List Int) true _ ?side1 ?side2 ?side3 ?side4 A3.out).mono ?_); (case side1 => repeat (first | exact (Kd.C_below HR0.out HB.out) | (with_reducible refine Kd.C_alloc ?_ _) | (with_reducible refine Kd.C_drewN ?_ _) | (with_reducible refine Kd.C_drew ?_))); (case side2 => exact HC0.out); (case side3 => exact Kd.C_nil _ _); (case side4 => exact Nat.le_refl _); rintro e w' ⟨rfl, ⟨nd, rfl⟩⟩; refine ⟨_, rfl, ?_⟩) | ((with_reducible refine gate_callee (f := 18) rfl ?_); refine goesL_ (some 11) rfl rfl Try.func18 (by kernel_rfl) rfl #[] rfl (by (try simp only [List.map_toArray, List.map_cons, List.map_nil]); first | done | rfl | (simp only [List.length_drop, List.length_take]; rfl)) ?_; (with_reducible refine (dropperlaw04_Awake.calls k  t103 _ A5.out).mono ?_); rintro e w7 ⟨rfl, hb⟩; refine ⟨_, rfl, ?_⟩; have n0_ := Aside0.mk (bkB BK101 hb); have n1_ := Aside0.mk (below_step (by repeat (first | (with_reducible first | exact HB.out | apply below_alloc | apply pw_below_drewN | apply below_drew1 | refine below_set ?_ GE101.out) | exact HB.out)) hb); clear BK101; clear HB; have BK101 := n0_; have HB := n1_; clear n0_ n1_; (try clear hb); (try clear hb2); (try clear hk); (try clear hi)))
    go_ret
    exact ⟨by first | rfl | (simp [errW_none, errW_some] <;> rfl) | (simp [*, errW_none, errW_some] <;> rfl), by repeat (first | (with_reducible first | exact HB.out | apply below_alloc | apply pw_below_drewN | apply below_drew1 | refine below_set ?_ GE101.out) | exact HB.out)⟩
  replace c4 := Bool.eq_false_iff.mpr c4
  subst c4
  have H1 : ((pull_Fewest.f k l0 a1_0 a1_1).bind fun bt104 => ((dropperref04_Fewest.f k l0 a1_0 a1_1).bind fun bt108 => (if bt104.2 = bt108.2 then ((dropperlaw04_SameInts.f k bt104.1 bt108.1).bind fun t112 => (dropperlaw04_PullBests.j0 k l0 (!t112) a1_0 a1_1)) else (dropperlaw04_PullBests.j0 k l0 true a1_0 a1_1)))) = some r := by rw [if_neg (show ¬ (false = true) by decide)] at H; exact H
  clear H
  have H := H1
  clear H1
  replace H := Option.bind_eq_some_iff.mp H
  obtain ⟨⟨t104, t105⟩, A80, H⟩ := H
  replace H : ((dropperref04_Fewest.f k l0 a1_0 a1_1).bind fun bt108 => (if t105 = bt108.2 then ((dropperlaw04_SameInts.f k t104 bt108.1).bind fun t112 => (dropperlaw04_PullBests.j0 k l0 (!t112) a1_0 a1_1)) else (dropperlaw04_PullBests.j0 k l0 true a1_0 a1_1))) = some r := H
  have A8 := Aside0.mk A80
  clear A80
  replace H := Option.bind_eq_some_iff.mp H
  obtain ⟨⟨t108, t109⟩, A90, H⟩ := H
  replace H : (if t105 = t109 then ((dropperlaw04_SameInts.f k t104 t108).bind fun t112 => (dropperlaw04_PullBests.j0 k l0 (!t112) a1_0 a1_1)) else (dropperlaw04_PullBests.j0 k l0 true a1_0 a1_1)) = some r := H
  have A9 := Aside0.mk A90
  clear A90
  have HC10 := Aside0.mk H
  clear H
  go_enter Try.func11, Try.ntmps11
  go_upto_region 5 with (first | ((with_reducible refine gate_dst (N := 3) rfl ?_); refine box_event ?hg (N := 3) ?hd (cs := #[.int .i64 a1_0, .int .i64 a1_1]) (t := 39) ?hr ?_; (case hd => rfl); (case hg => rfl); (case hr => first | (go_simp; done) | (go_simp; rfl)); intro gb101 hg w11 hbox hb; have n0_ := Aside0.mk (below_step (by repeat (first | (with_reducible first | exact HB.out | apply below_alloc | apply pw_below_drewN | apply below_drew1) | exact HB.out)) hb); have n1_ := Aside0.mk (hbox); have n2_ := Aside0.mk ((by rw [hg]; exact (below_size (by repeat (first | (with_reducible first | exact HB.out | apply below_alloc | apply pw_below_drewN | apply below_drew1) | exact HB.out))) : w.heap.size ≤ gb101)); have n3_ := Aside0.mk ((by rw [hg]; exact (below_size (by repeat (first | (with_reducible first | exact HB.out | apply below_alloc | apply pw_below_drewN | apply below_drew1) | exact HB.out))) : w.heap.size ≤ gb101)); clear HB; have HB := n0_; have BK101 := n1_; have GW101 := n2_; have GE101 := n3_; clear n0_ n1_ n2_ n3_; clear hb hbox hg) | ((with_reducible refine gate_callee (f := 23) rfl ?_); refine goesL_ (some 10) rfl rfl Try.func23 (by kernel_rfl) rfl #[.slice A0 l0.length c0, .slice none 0 0] rfl (by (try simp only [List.map_toArray, List.map_cons, List.map_nil]); first | done | rfl | (simp only [List.length_drop, List.length_take]; rfl)) ?_; (refine (dropperlaw04_long.calls _ _ l0 _ _ ([] : List Int) false _ ?side1 ?side2 ?side3 ?side4 A3.out).mono ?_); (case side1 => repeat (first | exact (Kd.C_below HR0.out HB.out) | (with_reducible refine Kd.C_alloc ?_ _) | (with_reducible refine Kd.C_drewN ?_ _) | (with_reducible refine Kd.C_drew ?_))); (case side2 => exact HC0.out); (case side3 => exact Kd.C_nil _ _); (case side4 => exact Nat.le_refl _); rintro e w' ⟨rfl, ⟨nd, rfl⟩⟩; refine ⟨_, rfl, ?_⟩; have hcz12_0 : w11.cell? ⟨gb101, 0, none⟩ = some (.int .i64 a1_0) := (blk_cell BK101.out 0).trans rfl; have hcz12_1 : w11.cell? ⟨gb101, 1, none⟩ = some (.int .i64 a1_1) := (blk_cell BK101.out 1).trans rfl; have hfz12_0 := blk_frozen BK101.out 0; have hfz12_1 := blk_frozen BK101.out 1) | ((with_reducible refine gate_callee (f := 31) rfl ?_); refine goesL_ (some 18) rfl rfl Try.func31 (by kernel_rfl) rfl #[.slice A0 l0.length c0, .int .i64 a1_0, .int .i64 a1_1] rfl (by (try simp only [List.map_toArray, List.map_cons, List.map_nil]); first | done | rfl | (simp only [List.length_drop, List.length_take]; rfl)) ?_; (with_reducible refine (pull_Fewest.calls k _ _ l0 a1_0 a1_1 t104 t105 _ ?side1 ?side2 A8.out).mono ?_); (case side1 => repeat (first | exact (Kd.C_below HR0.out (by repeat (first | (with_reducible first | exact HB.out | apply below_alloc | apply pw_below_drewN | apply below_drew1 | refine below_set ?_ GE101.out) | exact HB.out))) | (with_reducible refine Kd.C_alloc ?_ _) | (with_reducible refine Kd.C_drewN ?_ _) | (with_reducible refine Kd.C_drew ?_))); (case side2 => exact HC0.out); rintro e w13 ⟨v106, rfl, ho0, hb⟩; refine ⟨_, rfl, ?_⟩; have n0_ := Aside0.mk (Kd.R_lower ho0 (below_size (by repeat (first | (with_reducible first | exact HB.out | apply below_alloc | apply pw_below_drewN | apply below_drew1 | refine below_set ?_ GE101.out) | exact HB.out)))); have n1_ := Aside0.mk (bkB BK101 hb); have n2_ := Aside0.mk (below_step (by repeat (first | (with_reducible first | exact HB.out | apply below_alloc | apply pw_below_drewN | apply below_drew1 | refine below_set ?_ GE101.out) | exact HB.out)) hb); clear BK101; clear HB; have HO107 := n0_; have BK101 := n1_; have HB := n2_; clear n0_ n1_ n2_; (try clear hb); (try clear hb2); (try clear hk); (try clear hi); (try clear ho0); have hcz14_0 : w13.cell? ⟨gb101, 0, none⟩ = some (.int .i64 a1_0) := (blk_cell BK101.out 0).trans rfl; have hcz14_1 : w13.cell? ⟨gb101, 1, none⟩ = some (.int .i64 a1_1) := (blk_cell BK101.out 1).trans rfl; have hfz14_0 := blk_frozen BK101.out 0; have hfz14_1 := blk_frozen BK101.out 1) | ((with_reducible refine gate_callee (f := 47) rfl ?_); refine goesL_ (some 27) rfl rfl Try.func47 (by kernel_rfl) rfl #[.slice A0 l0.length c0, .int .i64 a1_0, .int .i64 a1_1] rfl (by (try simp only [List.map_toArray, List.map_cons, List.map_nil]); first | done | rfl | (simp only [List.length_drop, List.length_take]; rfl)) ?_; (with_reducible refine (dropperref04_Fewest.calls k _ _ l0 a1_0 a1_1 t108 t109 _ ?side1 ?side2 A9.out).mono ?_); (case side1 => repeat (first | exact (Kd.C_below HR0.out HB.out) | (with_reducible refine Kd.C_alloc ?_ _) | (with_reducible refine Kd.C_drewN ?_ _) | (with_reducible refine Kd.C_drew ?_))); (case side2 => exact HC0.out); rintro e w15 ⟨v110, rfl, ho0, hb⟩; refine ⟨_, rfl, ?_⟩; have n0_ := Aside0.mk (Kd.R_elder' (by (with_reducible repeat (first | apply Kd.R_alloc | apply Kd.R_drewN | apply Kd.R_drew)); exact HO107.out) (Kd.R_base ho0) hb); have n1_ := Aside0.mk (Kd.R_lower (Kd.R_new' ho0 (Kd.R_lt (by (with_reducible repeat (first | apply Kd.R_alloc | apply Kd.R_drewN | apply Kd.R_drew)); exact HO107.out))) (below_size (by repeat (first | (with_reducible first | exact HB.out | apply below_alloc | apply pw_below_drewN | apply below_drew1 | refine below_set ?_ GE101.out) | exact HB.out)))); have n2_ := Aside0.mk (bkB BK101 hb); have n3_ := Aside0.mk (below_step (by repeat (first | (with_reducible first | exact HB.out | apply below_alloc | apply pw_below_drewN | apply below_drew1 | refine below_set ?_ GE101.out) | exact HB.out)) hb); clear HO107; clear BK101; clear HB; have HO107 := n0_; have HO111 := n1_; have BK101 := n2_; have HB := n3_; clear n0_ n1_ n2_ n3_; (try clear hb); (try clear hb2); (try clear hk); (try clear hi); (try clear ho0)))
  (try simp only [Act.put, List.setIfInBounds_toArray, List.set_cons_zero, List.set_cons_succ])
  go_cut [38] (fun v38 wc => ∃ (kq : Nat) (x38_9 : Bool), v38 = .bool x38_9 ∧ Aside0 (dropperlaw04_PullBests.j0 kq l0 x38_9 a1_0 a1_1 = some r) ∧ Aside0 (kq ≤ k) ∧ Aside0 (wc.heap[gb101]? = some (.cells #[.int .i64 a1_0, .int .i64 a1_1] 39 (0, 0))) ∧ Aside0 (Below w.heap.size w wc))
  case first =>
    have H := HC10.out
    clear HC10
    by_cases c16 : t105 = t109
    rotate_left
    · rw [if_neg c16] at H
      have c16b0 : (t105 == t109) = false := beq_eq_false_iff_ne.mpr c16
      have c16b1 : (t105 != t109) = true := bne_iff_ne.mpr c16
      (first | rw [c16b0] | (simp only [i64_w, i32_w]; rw [c16b0]) | skip)
      have H' := Aside0.mk H
      clear H
      go_wp2
      go_meet
      case rel => exact ⟨_, (true), (by first | rfl | (simp; done) | (simp [*]; done)), H', ⟨by first | omega | exact Nat.le_refl _⟩, ⟨bkU BK101⟩, ⟨by repeat (first | (with_reducible first | exact HB.out | apply below_alloc | apply pw_below_drewN | apply below_drew1 | refine below_set ?_ GE101.out) | exact HB.out)⟩⟩
    rw [if_pos c16] at H
    have c16b0 : (t105 == t109) = true := beq_iff_eq.mpr c16
    have c16b1 : (t105 != t109) = false := bne_eq_false_iff_eq.mpr c16
    clear c16
    (first | rw [c16b0] | (simp only [i64_w, i32_w]; rw [c16b0]) | skip)
    replace H := Option.bind_eq_some_iff.mp H
    obtain ⟨t112, A170, H⟩ := H
    replace H : (dropperlaw04_PullBests.j0 k l0 (!t112) a1_0 a1_1) = some r := H
    have A17 := Aside0.mk A170
    clear A170
    have H' := Aside0.mk H
    clear H
    obtain ⟨Ao18, co18, eo18⟩ := Kd.R_slice HO107.out
    subst eo18
    obtain ⟨Ao19, co19, eo19⟩ := Kd.R_slice HO111.out
    subst eo19
    go_wp2_with (first | (go_at_call 28; (with_reducible refine (dropperlaw04_SameInts.calls k _ _ t104 _ _ t108 t112 _ ?side1 ?side2 ?side3 ?side4 A17.out).mono ?_); (case side1 => repeat (first | exact (Kd.R_reads' HO107.out).2.2 | (with_reducible refine Kd.C_alloc ?_ _) | (with_reducible refine Kd.C_drewN ?_ _) | (with_reducible refine Kd.C_drew ?_))); (case side2 => exact (Kd.R_reads' HO107.out).2.1); (case side3 => repeat (first | exact (Kd.R_reads' HO111.out).2.2 | (with_reducible refine Kd.C_alloc ?_ _) | (with_reducible refine Kd.C_drewN ?_ _) | (with_reducible refine Kd.C_drew ?_))); (case side4 => exact (Kd.R_reads' HO111.out).2.1); rintro e w' ⟨rfl, ⟨nd, rfl⟩⟩))
    go_meet
    case rel => exact ⟨_, (!t112), (by first | rfl | (simp; done) | (simp [*]; done)), H', ⟨by first | omega | exact Nat.le_refl _⟩, ⟨bkU BK101⟩, ⟨by repeat (first | (with_reducible first | exact HB.out | apply below_alloc | apply pw_below_drewN | apply below_drew1 | refine below_set ?_ GE101.out) | exact HB.out)⟩⟩
  case rest =>
    clear HC10
    try clear c1
    try clear c2
    try clear p2
    try clear c3
    try clear c4
    try clear c11
    try clear c16
    try clear c16b0
    try clear c16b1
    try clear c18
    try clear hcz12_0
    try clear hcz12_1
    try clear hcz14_0
    try clear hcz14_1
    try clear hfz12_0
    try clear hfz12_1
    try clear hfz14_0
    try clear hfz14_1
    obtain ⟨kq, x38_9, rfl, HA, HJ9, BK101, HB⟩ := hcut
    cases kq with
    | zero => exact absurd HA.out (by simp [dropperlaw04_PullBests.j0])
    | succ kj9 =>
      have H := HA.out
      clear HA
      simp only [dropperlaw04_PullBests.j0] at H
      by_cases c20 : x38_9 = true
      · subst c20
        have H1 : (some false) = some r := by rw [if_pos rfl] at H; exact H
        clear H
        have H := H1
        clear H1
        exact absurd (hT.symm.trans (Option.some.inj H).symm) (by decide)
      replace c20 := Bool.eq_false_iff.mpr c20
      subst c20
      have H1 : ((pull_Most.f kj9 l0 a1_0 a1_1).bind fun bt113 => ((dropperref04_Most.f kj9 l0 a1_0 a1_1).bind fun bt117 => (if bt113.2 = bt117.2 then ((dropperlaw04_SameInts.f kj9 bt113.1 bt117.1).bind fun t121 => (dropperlaw04_PullBests.j1 kj9 l0 (!t121) a1_0 a1_1)) else (dropperlaw04_PullBests.j1 kj9 l0 true a1_0 a1_1)))) = some r := by rw [if_neg (show ¬ (false = true) by decide)] at H; exact H
      clear H
      have H := H1
      clear H1
      replace H := Option.bind_eq_some_iff.mp H
      obtain ⟨⟨t113, t114⟩, A210, H⟩ := H
      replace H : ((dropperref04_Most.f kj9 l0 a1_0 a1_1).bind fun bt117 => (if t114 = bt117.2 then ((dropperlaw04_SameInts.f kj9 t113 bt117.1).bind fun t121 => (dropperlaw04_PullBests.j1 kj9 l0 (!t121) a1_0 a1_1)) else (dropperlaw04_PullBests.j1 kj9 l0 true a1_0 a1_1))) = some r := H
      have A21 := Aside0.mk A210
      clear A210
      replace H := Option.bind_eq_some_iff.mp H
      obtain ⟨⟨t117, t118⟩, A220, H⟩ := H
      replace H : (if t114 = t118 then ((dropperlaw04_SameInts.f kj9 t113 t117).bind fun t121 => (dropperlaw04_PullBests.j1 kj9 l0 (!t121) a1_0 a1_1)) else (dropperlaw04_PullBests.j1 kj9 l0 true a1_0 a1_1)) = some r := H
      have A22 := Aside0.mk A220
      clear A220
      have HC23 := Aside0.mk H
      clear H
      have hcz24_0 : wc.cell? ⟨gb101, 0, none⟩ = some (.int .i64 a1_0) := (blk_cell BK101.out 0).trans rfl
      have hcz24_1 : wc.cell? ⟨gb101, 1, none⟩ = some (.int .i64 a1_1) := (blk_cell BK101.out 1).trans rfl
      have hfz24_0 := blk_frozen BK101.out 0
      have hfz24_1 := blk_frozen BK101.out 1
      go_upto_region 9 with (first | ((with_reducible refine gate_callee (f := 32) rfl ?_); refine goesL_ (some 45) rfl rfl Try.func32 (by kernel_rfl) rfl #[.slice A0 l0.length c0, .int .i64 a1_0, .int .i64 a1_1] rfl (by (try simp only [List.map_toArray, List.map_cons, List.map_nil]); first | done | rfl | (simp only [List.length_drop, List.length_take]; rfl)) ?_; (with_reducible refine (pull_Most.calls kj9 _ _ l0 a1_0 a1_1 t113 t114 _ ?side1 ?side2 A21.out).mono ?_); (case side1 => repeat (first | exact (Kd.C_below HR0.out HB.out) | (with_reducible refine Kd.C_alloc ?_ _) | (with_reducible refine Kd.C_drewN ?_ _) | (with_reducible refine Kd.C_drew ?_))); (case side2 => exact HC0.out); rintro e w25 ⟨v115, rfl, ho0, hb⟩; refine ⟨_, rfl, ?_⟩; have n0_ := Aside0.mk (Kd.R_lower ho0 (below_size (by repeat (first | (with_reducible first | exact HB.out | apply below_alloc | apply pw_below_drewN | apply below_drew1 | refine below_set ?_ GE101.out) | exact HB.out)))); have n1_ := Aside0.mk (bkB BK101 hb); have n2_ := Aside0.mk (below_step (by repeat (first | (with_reducible first | exact HB.out | apply below_alloc | apply pw_below_drewN | apply below_drew1 | refine below_set ?_ GE101.out) | exact HB.out)) hb); clear BK101; clear HB; have HO116 := n0_; have BK101 := n1_; have HB := n2_; clear n0_ n1_ n2_; (try clear hb); (try clear hb2); (try clear hk); (try clear hi); (try clear ho0); have hcz26_0 : w25.cell? ⟨gb101, 0, none⟩ = some (.int .i64 a1_0) := (blk_cell BK101.out 0).trans rfl; have hcz26_1 : w25.cell? ⟨gb101, 1, none⟩ = some (.int .i64 a1_1) := (blk_cell BK101.out 1).trans rfl; have hfz26_0 := blk_frozen BK101.out 0; have hfz26_1 := blk_frozen BK101.out 1) | ((with_reducible refine gate_callee (f := 48) rfl ?_); refine goesL_ (some 54) rfl rfl Try.func48 (by kernel_rfl) rfl #[.slice A0 l0.length c0, .int .i64 a1_0, .int .i64 a1_1] rfl (by (try simp only [List.map_toArray, List.map_cons, List.map_nil]); first | done | rfl | (simp only [List.length_drop, List.length_take]; rfl)) ?_; (with_reducible refine (dropperref04_Most.calls kj9 _ _ l0 a1_0 a1_1 t117 t118 _ ?side1 ?side2 A22.out).mono ?_); (case side1 => repeat (first | exact (Kd.C_below HR0.out HB.out) | (with_reducible refine Kd.C_alloc ?_ _) | (with_reducible refine Kd.C_drewN ?_ _) | (with_reducible refine Kd.C_drew ?_))); (case side2 => exact HC0.out); rintro e w27 ⟨v119, rfl, ho0, hb⟩; refine ⟨_, rfl, ?_⟩; have n0_ := Aside0.mk (Kd.R_elder' (by (with_reducible repeat (first | apply Kd.R_alloc | apply Kd.R_drewN | apply Kd.R_drew)); exact HO116.out) (Kd.R_base ho0) hb); have n1_ := Aside0.mk (Kd.R_lower (Kd.R_new' ho0 (Kd.R_lt (by (with_reducible repeat (first | apply Kd.R_alloc | apply Kd.R_drewN | apply Kd.R_drew)); exact HO116.out))) (below_size (by repeat (first | (with_reducible first | exact HB.out | apply below_alloc | apply pw_below_drewN | apply below_drew1 | refine below_set ?_ GE101.out) | exact HB.out)))); have n2_ := Aside0.mk (bkB BK101 hb); have n3_ := Aside0.mk (below_step (by repeat (first | (with_reducible first | exact HB.out | apply below_alloc | apply pw_below_drewN | apply below_drew1 | refine below_set ?_ GE101.out) | exact HB.out)) hb); clear HO116; clear BK101; clear HB; have HO116 := n0_; have HO120 := n1_; have BK101 := n2_; have HB := n3_; clear n0_ n1_ n2_ n3_; (try clear hb); (try clear hb2); (try clear hk); (try clear hi); (try clear ho0)))
      (try simp only [Act.put, List.setIfInBounds_toArray, List.set_cons_zero, List.set_cons_succ])
      go_cut [65] (fun v65 wc => ∃ (kq : Nat) (x65_22 : Bool), v65 = .bool x65_22 ∧ Aside0 (dropperlaw04_PullBests.j1 kq l0 x65_22 a1_0 a1_1 = some r) ∧ Aside0 (kq ≤ kj9) ∧ Aside0 (wc.heap[gb101]? = some (.cells #[.int .i64 a1_0, .int .i64 a1_1] 39 (0, 0))) ∧ Aside0 (Below w.heap.size w wc))
      case first =>
        have H := HC23.out
        clear HC23
        by_cases c28 : t114 = t118
        rotate_left
        · rw [if_neg c28] at H
          have c28b0 : (t114 == t118) = false := beq_eq_false_iff_ne.mpr c28
          have c28b1 : (t114 != t118) = true := bne_iff_ne.mpr c28
          (first | rw [c28b0] | (simp only [i64_w, i32_w]; rw [c28b0]) | skip)
          have H' := Aside0.mk H
          clear H
          go_wp2
          go_meet
          case rel => exact ⟨_, (true), (by first | rfl | (simp; done) | (simp [*]; done)), H', ⟨by have := HJ9.out; first | omega | exact Nat.le_refl _⟩, ⟨bkU BK101⟩, ⟨by repeat (first | (with_reducible first | exact HB.out | apply below_alloc | apply pw_below_drewN | apply below_drew1 | refine below_set ?_ GE101.out) | exact HB.out)⟩⟩
        rw [if_pos c28] at H
        have c28b0 : (t114 == t118) = true := beq_iff_eq.mpr c28
        have c28b1 : (t114 != t118) = false := bne_eq_false_iff_eq.mpr c28
        clear c28
        (first | rw [c28b0] | (simp only [i64_w, i32_w]; rw [c28b0]) | skip)
        replace H := Option.bind_eq_some_iff.mp H
        obtain ⟨t121, A290, H⟩ := H
        replace H : (dropperlaw04_PullBests.j1 kj9 l0 (!t121) a1_0 a1_1) = some r := H
        have A29 := Aside0.mk A290
        clear A290
        have H' := Aside0.mk H
        clear H
        obtain ⟨Ao30, co30, eo30⟩ := Kd.R_slice HO116.out
        subst eo30
        obtain ⟨Ao31, co31, eo31⟩ := Kd.R_slice HO120.out
        subst eo31
        go_wp2_with (first | (go_at_call 28; (with_reducible refine (dropperlaw04_SameInts.calls kj9 _ _ t113 _ _ t117 t121 _ ?side1 ?side2 ?side3 ?side4 A29.out).mono ?_); (case side1 => repeat (first | exact (Kd.R_reads' HO116.out).2.2 | (with_reducible refine Kd.C_alloc ?_ _) | (with_reducible refine Kd.C_drewN ?_ _) | (with_reducible refine Kd.C_drew ?_))); (case side2 => exact (Kd.R_reads' HO116.out).2.1); (case side3 => repeat (first | exact (Kd.R_reads' HO120.out).2.2 | (with_reducible refine Kd.C_alloc ?_ _) | (with_reducible refine Kd.C_drewN ?_ _) | (with_reducible refine Kd.C_drew ?_))); (case side4 => exact (Kd.R_reads' HO120.out).2.1); rintro e w' ⟨rfl, ⟨nd, rfl⟩⟩))
        go_meet
        case rel => exact ⟨_, (!t121), (by first | rfl | (simp; done) | (simp [*]; done)), H', ⟨by have := HJ9.out; first | omega | exact Nat.le_refl _⟩, ⟨bkU BK101⟩, ⟨by repeat (first | (with_reducible first | exact HB.out | apply below_alloc | apply pw_below_drewN | apply below_drew1 | refine below_set ?_ GE101.out) | exact HB.out)⟩⟩
      case rest =>
        clear HC23
        try clear c1
        try clear c2
        try clear p2
        try clear c3
        try clear c4
        try clear c11
        try clear c16
        try clear c16b0
        try clear c16b1
        try clear c18
        try clear c20
        try clear c23
        try clear c28
        try clear c28b0
        try clear c28b1
        try clear c31
        try clear hcz12_0
        try clear hcz12_1
        try clear hcz14_0
        try clear hcz14_1
        try clear hcz24_0
        try clear hcz24_1
        try clear hcz26_0
        try clear hcz26_1
        try clear hfz12_0
        try clear hfz12_1
        try clear hfz14_0
        try clear hfz14_1
        try clear hfz24_0
        try clear hfz24_1
        try clear hfz26_0
        try clear hfz26_1
        try clear p2
        obtain ⟨kq, x65_22, rfl, HA, HJ22, BK101, HB⟩ := hcut
        cases kq with
        | zero => exact absurd HA.out (by simp [dropperlaw04_PullBests.j1])
        | succ kj22 =>
          have H := HA.out
          clear HA
          simp only [dropperlaw04_PullBests.j1] at H
          by_cases c32 : x65_22 = true
          · subst c32
            have H1 : (some false) = some r := by rw [if_pos rfl] at H; exact H
            clear H
            have H := H1
            clear H1
            exact absurd (hT.symm.trans (Option.some.inj H).symm) (by decide)
          replace c32 := Bool.eq_false_iff.mpr c32
          subst c32
          have H1 : ((pull_Evenest.f kj22 l0 a1_0 a1_1).bind fun bt122 => ((dropperref04_Evenest.f kj22 l0 a1_0 a1_1).bind fun bt126 => (if bt122.2 = bt126.2 then ((dropperlaw04_SameInts.f kj22 bt122.1 bt126.1).bind fun t130 => (if t130 = true then ((dropperlaw04_Awake.f kj22).bind fun t131 => (some t131)) else (some false))) else (some false)))) = some r := by rw [if_neg (show ¬ (false = true) by decide)] at H; exact H
          clear H
          have H := H1
          clear H1
          replace H := Option.bind_eq_some_iff.mp H
          obtain ⟨⟨t122, t123⟩, A330, H⟩ := H
          replace H : ((dropperref04_Evenest.f kj22 l0 a1_0 a1_1).bind fun bt126 => (if t123 = bt126.2 then ((dropperlaw04_SameInts.f kj22 t122 bt126.1).bind fun t130 => (if t130 = true then ((dropperlaw04_Awake.f kj22).bind fun t131 => (some t131)) else (some false))) else (some false))) = some r := H
          have A33 := Aside0.mk A330
          clear A330
          replace H := Option.bind_eq_some_iff.mp H
          obtain ⟨⟨t126, t127⟩, A340, H⟩ := H
          replace H : (if t123 = t127 then ((dropperlaw04_SameInts.f kj22 t122 t126).bind fun t130 => (if t130 = true then ((dropperlaw04_Awake.f kj22).bind fun t131 => (some t131)) else (some false))) else (some false)) = some r := H
          have A34 := Aside0.mk A340
          clear A340
          by_cases c35 : t123 = t127
          rotate_left
          · rw [if_neg c35] at H
            have c35b0 : (t123 == t127) = false := beq_eq_false_iff_ne.mpr c35
            have c35b1 : (t123 != t127) = true := bne_iff_ne.mpr c35
            exact absurd (hT.symm.trans (Option.some.inj H).symm) (by decide)

          rw [if_pos c35] at H
          have c35b0 : (t123 == t127) = true := beq_iff_eq.mpr c35
          have c35b1 : (t123 != t127) = false := bne_eq_false_iff_eq.mpr c35
          clear c35
          replace H := Option.bind_eq_some_iff.mp H
          obtain ⟨t130, A360, H⟩ := H
          replace H : (if t130 = true then ((dropperlaw04_Awake.f kj22).bind fun t131 => (some t131)) else (some false)) = some r := H
          have A36 := Aside0.mk A360
          clear A360
          by_cases c37 : t130 = true
          rotate_left
          · replace c37 := Bool.eq_false_iff.mpr c37
            subst c37
            have H1 : (some false) = some r := by rw [if_neg (show ¬ (false = true) by decide)] at H; exact H
            clear H
            have H := H1
            clear H1
            exact absurd (hT.symm.trans (Option.some.inj H).symm) (by decide)
          subst c37
          have H1 : ((dropperlaw04_Awake.f kj22).bind fun t131 => (some t131)) = some r := by rw [if_pos rfl] at H; exact H
          clear H
          have H := H1
          clear H1
          replace H := Option.bind_eq_some_iff.mp H
          obtain ⟨t131, A380, H⟩ := H
          replace H : (some t131) = some r := H
          have A38 := Aside0.mk A380
          clear A380
          clear hT
          obtain rfl := Option.some.inj H
          have hcz39_0 : wc.cell? ⟨gb101, 0, none⟩ = some (.int .i64 a1_0) := (blk_cell BK101.out 0).trans rfl
          have hcz39_1 : wc.cell? ⟨gb101, 1, none⟩ = some (.int .i64 a1_1) := (blk_cell BK101.out 1).trans rfl
          have hfz39_0 := blk_frozen BK101.out 0
          have hfz39_1 := blk_frozen BK101.out 1
          go_wp2_with (first | ((with_reducible refine gate_callee (f := 33) rfl ?_); refine goesL_ (some 72) rfl rfl Try.func33 (by kernel_rfl) rfl #[.slice A0 l0.length c0, .int .i64 a1_0, .int .i64 a1_1] rfl (by (try simp only [List.map_toArray, List.map_cons, List.map_nil]); first | done | rfl | (simp only [List.length_drop, List.length_take]; rfl)) ?_; (with_reducible refine (pull_Evenest.calls kj22 _ _ l0 a1_0 a1_1 t122 t123 _ ?side1 ?side2 A33.out).mono ?_); (case side1 => repeat (first | exact (Kd.C_below HR0.out HB.out) | (with_reducible refine Kd.C_alloc ?_ _) | (with_reducible refine Kd.C_drewN ?_ _) | (with_reducible refine Kd.C_drew ?_))); (case side2 => exact HC0.out); rintro e w40 ⟨v124, rfl, ho0, hb⟩; refine ⟨_, rfl, ?_⟩; have n0_ := Aside0.mk (Kd.R_lower ho0 (below_size (by repeat (first | (with_reducible first | exact HB.out | apply below_alloc | apply pw_below_drewN | apply below_drew1 | refine below_set ?_ GE101.out) | exact HB.out)))); have n1_ := Aside0.mk (bkB BK101 hb); have n2_ := Aside0.mk (below_step (by repeat (first | (with_reducible first | exact HB.out | apply below_alloc | apply pw_below_drewN | apply below_drew1 | refine below_set ?_ GE101.out) | exact HB.out)) hb); clear BK101; clear HB; have HO125 := n0_; have BK101 := n1_; have HB := n2_; clear n0_ n1_ n2_; (try clear hb); (try clear hb2); (try clear hk); (try clear hi); (try clear ho0); have hcz41_0 : w40.cell? ⟨gb101, 0, none⟩ = some (.int .i64 a1_0) := (blk_cell BK101.out 0).trans rfl; have hcz41_1 : w40.cell? ⟨gb101, 1, none⟩ = some (.int .i64 a1_1) := (blk_cell BK101.out 1).trans rfl; have hfz41_0 := blk_frozen BK101.out 0; have hfz41_1 := blk_frozen BK101.out 1) | ((with_reducible refine gate_callee (f := 49) rfl ?_); refine goesL_ (some 81) rfl rfl Try.func49 (by kernel_rfl) rfl #[.slice A0 l0.length c0, .int .i64 a1_0, .int .i64 a1_1] rfl (by (try simp only [List.map_toArray, List.map_cons, List.map_nil]); first | done | rfl | (simp only [List.length_drop, List.length_take]; rfl)) ?_; (with_reducible refine (dropperref04_Evenest.calls kj22 _ _ l0 a1_0 a1_1 t126 t127 _ ?side1 ?side2 A34.out).mono ?_); (case side1 => repeat (first | exact (Kd.C_below HR0.out HB.out) | (with_reducible refine Kd.C_alloc ?_ _) | (with_reducible refine Kd.C_drewN ?_ _) | (with_reducible refine Kd.C_drew ?_))); (case side2 => exact HC0.out); rintro e w42 ⟨v128, rfl, ho0, hb⟩; refine ⟨_, rfl, ?_⟩; have n0_ := Aside0.mk (Kd.R_elder' (by (with_reducible repeat (first | apply Kd.R_alloc | apply Kd.R_drewN | apply Kd.R_drew)); exact HO125.out) (Kd.R_base ho0) hb); have n1_ := Aside0.mk (Kd.R_lower (Kd.R_new' ho0 (Kd.R_lt (by (with_reducible repeat (first | apply Kd.R_alloc | apply Kd.R_drewN | apply Kd.R_drew)); exact HO125.out))) (below_size (by repeat (first | (with_reducible first | exact HB.out | apply below_alloc | apply pw_below_drewN | apply below_drew1 | refine below_set ?_ GE101.out) | exact HB.out)))); have n2_ := Aside0.mk (bkB BK101 hb); have n3_ := Aside0.mk (below_step (by repeat (first | (with_reducible first | exact HB.out | apply below_alloc | apply pw_below_drewN | apply below_drew1 | refine below_set ?_ GE101.out) | exact HB.out)) hb); clear HO125; clear BK101; clear HB; have HO125 := n0_; have HO129 := n1_; have BK101 := n2_; have HB := n3_; clear n0_ n1_ n2_ n3_; (try clear hb); (try clear hb2); (try clear hk); (try clear hi); (try clear ho0); obtain ⟨Ao43, co43, eo43⟩ := Kd.R_slice HO125.out; subst eo43; obtain ⟨Ao44, co44, eo44⟩ := Kd.R_slice HO129.out; subst eo44) | (go_at_call 28; (with_reducible refine (dropperlaw04_SameInts.calls kj22 _ _ t122 _ _ t126 true _ ?side1 ?side2 ?side3 ?side4 A36.out).mono ?_); (case side1 => repeat (first | exact (Kd.R_reads' HO125.out).2.2 | (with_reducible refine Kd.C_alloc ?_ _) | (with_reducible refine Kd.C_drewN ?_ _) | (with_reducible refine Kd.C_drew ?_))); (case side2 => exact (Kd.R_reads' HO125.out).2.1); (case side3 => repeat (first | exact (Kd.R_reads' HO129.out).2.2 | (with_reducible refine Kd.C_alloc ?_ _) | (with_reducible refine Kd.C_drewN ?_ _) | (with_reducible refine Kd.C_drew ?_))); (case side4 => exact (Kd.R_reads' HO129.out).2.1); rintro e w' ⟨rfl, ⟨nd, rfl⟩⟩) | (go_at_call 18; (with_reducible refine (dropperlaw04_Awake.calls kj22  t131 _ A38.out).mono ?_); rintro e w45 ⟨rfl, hb⟩; have n0_ := Aside0.mk (Kd.R_below (by (with_reducible repeat (first | apply Kd.R_alloc | apply Kd.R_drewN | apply Kd.R_drew)); exact HO125.out) hb); have n1_ := Aside0.mk (Kd.R_below (by (with_reducible repeat (first | apply Kd.R_alloc | apply Kd.R_drewN | apply Kd.R_drew)); exact HO129.out) hb); have n2_ := Aside0.mk (bkB BK101 hb); have n3_ := Aside0.mk (below_step (by repeat (first | (with_reducible first | exact HB.out | apply below_alloc | apply pw_below_drewN | apply below_drew1 | refine below_set ?_ GE101.out) | exact HB.out)) hb); clear HO125; clear HO129; clear BK101; clear HB; have HO125 := n0_; have HO129 := n1_; have BK101 := n2_; have HB := n3_; clear n0_ n1_ n2_ n3_; (try clear hb); (try clear hb2); (try clear hk); (try clear hi)))
          go_ret
          exact ⟨by first | rfl | (simp [errW_none, errW_some] <;> rfl) | (simp [*, errW_none, errW_some] <;> rfl), by repeat (first | (with_reducible first | exact HB.out | apply below_alloc | apply pw_below_drewN | apply below_drew1 | refine below_set ?_ GE101.out) | exact HB.out)⟩
end Go.Proofs.Ytiebfmenkpodeaa.G
