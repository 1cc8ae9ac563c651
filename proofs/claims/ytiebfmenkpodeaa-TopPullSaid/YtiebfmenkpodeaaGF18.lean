-- Written by this session's driver (wip/tools/printmore.py) over the kit's print, with hand-written parts.
import Derived.Test.YtiebfmenkpodeaaGBase
import Derived.Test.YtiebfmenkpodeaaGF14
import Derived.Test.YtiebfmenkpodeaaGF24
import Derived.Test.YtiebfmenkpodeaaGF28
import Derived.Test.YtiebfmenkpodeaaGF31
namespace Go.Proofs.Ytiebfmenkpodeaa.G
open Go.RowKit Go.Proofs.YtiebfmenkpodeaaW.PrintWords Go.Proofs.YtiebfmenkpodeaaW.PrintLast Go.Proofs.YtiebfmenkpodeaaW.PrintMore
attribute [local go_sem] max2_int min2_int max_two min_two max_three min_three max_four min_four   -- for this text's walks alone
set_option linter.unusedVariables false
set_option linter.unusedSimpArgs false

/-! ### dropperlaw04_Awake: function 18 -/
def dropperlaw04_Awake.f (k : Nat)  : Option (Bool) := (some (([0, 50, 100, 150, 200] : List Int) : List Int)).bind fun y101 => ((pull_Number.f k y101 50 100).bind fun bt104 => ((pull_Fewest.f k y101 50 100).bind fun bt106 => ((pull_Free.f k 600 3 1000 2500).bind fun bt110 => (if bt104.2 = 0 then (if bt106.2 = 0 then (if bt110.2.2 = 0 then (if bt104.1 = 5 then ((dropperlaw04_SameInts.f k bt106.1 (([0, 2, 4] : List Int))).bind fun t116 => (if t116 = true then (if bt110.1 = (-49) then (some (bt110.2.1 == 32)) else (some false)) else (some false))) else (some false)) else (some false)) else (some false)) else (some false)))))
theorem dropperlaw04_Awake.mono : ∀ k, LeO (dropperlaw04_Awake.f k ) (dropperlaw04_Awake.f (k + 1) ) := by
  intro  k
  unfold dropperlaw04_Awake.f
  repeat' first
      | (with_reducible exact dropperlaw04_SameInts.mono _ _ _)
      | (with_reducible exact pull_Fewest.mono _ _ _ _)
      | (with_reducible exact pull_Free.mono _ _ _ _ _)
      | (with_reducible exact pull_Number.mono _ _ _ _)
      | (with_reducible exact LeO.refl _)
      | (with_reducible exact LeO.none _)
      | (with_reducible refine LeO.ite ?_ ?_)
      | (with_reducible refine LeO.bind ?_ (fun _ => ?_))
      | exact dropperlaw04_SameInts.mono _ _ _
      | exact pull_Fewest.mono _ _ _ _
      | exact pull_Free.mono _ _ _ _ _
      | exact pull_Number.mono _ _ _ _
      | exact LeO.none _
      | refine LeO.ite ?_ ?_
      | refine LeO.bind ?_ (fun _ => ?_)
set_option maxHeartbeats 8000000 in
set_option maxRecDepth 100000 in
theorem dropperlaw04_Awake.calls_true (k : Nat)  (r : Bool) (w : World) (h : dropperlaw04_Awake.f k  = some r) (hT : r = true) :
    Calls Try.prog 18 #[] w fun e w' => e = .returned (.bool r) ∧ Below w.heap.size w w' := by
  have hu23 := Try.underlying23
  have HB := Aside0.mk (Below.refl w.heap.size w)
  have H : ((some (([0, 50, 100, 150, 200] : List Int) : List Int)).bind fun y101 => ((pull_Number.f k y101 50 100).bind fun bt104 => ((pull_Fewest.f k y101 50 100).bind fun bt106 => ((pull_Free.f k 600 3 1000 2500).bind fun bt110 => (if bt104.2 = 0 then (if bt106.2 = 0 then (if bt110.2.2 = 0 then (if bt104.1 = 5 then ((dropperlaw04_SameInts.f k bt106.1 (([0, 2, 4] : List Int))).bind fun t116 => (if t116 = true then (if bt110.1 = (-49) then (some (bt110.2.1 == 32)) else (some false)) else (some false))) else (some false)) else (some false)) else (some false)) else (some false)))))) = some r := h
  clear h
  obtain ⟨y101, hy101⟩ : ∃ y_ : List Int, y_ = (([0, 50, 100, 150, 200] : List Int)) := ⟨_, rfl⟩
  replace H : ((pull_Number.f k y101 50 100).bind fun bt104 => ((pull_Fewest.f k y101 50 100).bind fun bt106 => ((pull_Free.f k 600 3 1000 2500).bind fun bt110 => (if bt104.2 = 0 then (if bt106.2 = 0 then (if bt110.2.2 = 0 then (if bt104.1 = 5 then ((dropperlaw04_SameInts.f k bt106.1 (([0, 2, 4] : List Int))).bind fun t116 => (if t116 = true then (if bt110.1 = (-49) then (some (bt110.2.1 == 32)) else (some false)) else (some false))) else (some false)) else (some false)) else (some false)) else (some false))))) = some r := by first | (rw [hy101]; with_reducible exact H) | (have H2_ := (Option.bind_some _ _).symm.trans H; rw [hy101]; with_reducible exact H2_) | (have H2_ := (Option.bind_some _ _).symm.trans H; with_reducible exact H2_) | with_reducible exact H | (rw [hy101]; exact H) | exact H
  have Ny101 := Aside0.mk hy101
  clear hy101
  replace H := Option.bind_eq_some_iff.mp H
  obtain ⟨⟨t104, t105⟩, A10, H⟩ := H
  replace H : ((pull_Fewest.f k y101 50 100).bind fun bt106 => ((pull_Free.f k 600 3 1000 2500).bind fun bt110 => (if t105 = 0 then (if bt106.2 = 0 then (if bt110.2.2 = 0 then (if t104 = 5 then ((dropperlaw04_SameInts.f k bt106.1 (([0, 2, 4] : List Int))).bind fun t116 => (if t116 = true then (if bt110.1 = (-49) then (some (bt110.2.1 == 32)) else (some false)) else (some false))) else (some false)) else (some false)) else (some false)) else (some false)))) = some r := H
  have A1 := Aside0.mk A10
  clear A10
  replace H := Option.bind_eq_some_iff.mp H
  obtain ⟨⟨t106, t107⟩, A20, H⟩ := H
  replace H : ((pull_Free.f k 600 3 1000 2500).bind fun bt110 => (if t105 = 0 then (if t107 = 0 then (if bt110.2.2 = 0 then (if t104 = 5 then ((dropperlaw04_SameInts.f k t106 (([0, 2, 4] : List Int))).bind fun t116 => (if t116 = true then (if bt110.1 = (-49) then (some (bt110.2.1 == 32)) else (some false)) else (some false))) else (some false)) else (some false)) else (some false)) else (some false))) = some r := H
  have A2 := Aside0.mk A20
  clear A20
  replace H := Option.bind_eq_some_iff.mp H
  obtain ⟨⟨t110, t111, t112⟩, A30, H⟩ := H
  replace H : (if t105 = 0 then (if t107 = 0 then (if t112 = 0 then (if t104 = 5 then ((dropperlaw04_SameInts.f k t106 (([0, 2, 4] : List Int))).bind fun t116 => (if t116 = true then (if t110 = (-49) then (some (t111 == 32)) else (some false)) else (some false))) else (some false)) else (some false)) else (some false)) else (some false)) = some r := H
  have A3 := Aside0.mk A30
  clear A30
  by_cases c4 : t105 = 0
  rotate_left
  · rw [if_neg c4] at H
    have c4b0 : (t105 == 0) = false := beq_eq_false_iff_ne.mpr c4
    have c4b1 : (t105 != 0) = true := bne_iff_ne.mpr c4
    exact absurd (hT.symm.trans (Option.some.inj H).symm) (by decide)
  rw [if_pos c4] at H
  have c4b0 : (t105 == 0) = true := beq_iff_eq.mpr c4
  have c4b1 : (t105 != 0) = false := bne_eq_false_iff_eq.mpr c4
  clear c4
  by_cases c5 : t107 = 0
  rotate_left
  · rw [if_neg c5] at H
    have c5b0 : (t107 == 0) = false := beq_eq_false_iff_ne.mpr c5
    have c5b1 : (t107 != 0) = true := bne_iff_ne.mpr c5
    exact absurd (hT.symm.trans (Option.some.inj H).symm) (by decide)
  rw [if_pos c5] at H
  have c5b0 : (t107 == 0) = true := beq_iff_eq.mpr c5
  have c5b1 : (t107 != 0) = false := bne_eq_false_iff_eq.mpr c5
  clear c5
  by_cases c6 : t112 = 0
  rotate_left
  · rw [if_neg c6] at H
    have c6b0 : (t112 == 0) = false := beq_eq_false_iff_ne.mpr c6
    have c6b1 : (t112 != 0) = true := bne_iff_ne.mpr c6
    exact absurd (hT.symm.trans (Option.some.inj H).symm) (by decide)
  rw [if_pos c6] at H
  have c6b0 : (t112 == 0) = true := beq_iff_eq.mpr c6
  have c6b1 : (t112 != 0) = false := bne_eq_false_iff_eq.mpr c6
  clear c6
  by_cases c7 : t104 = 5
  rotate_left
  · rw [if_neg c7] at H
    have c7b0 : (t104 == 5) = false := beq_eq_false_iff_ne.mpr c7
    have c7b1 : (t104 != 5) = true := bne_iff_ne.mpr c7
    exact absurd (hT.symm.trans (Option.some.inj H).symm) (by decide)
  rw [if_pos c7] at H
  have c7b0 : (t104 == 5) = true := beq_iff_eq.mpr c7
  have c7b1 : (t104 != 5) = false := bne_eq_false_iff_eq.mpr c7
  clear c7
  obtain ⟨y113, hy113⟩ : ∃ y_ : List Int, y_ = (([0, 2, 4] : List Int)) := ⟨_, rfl⟩
  replace H : ((dropperlaw04_SameInts.f k t106 y113).bind fun t116 => (if t116 = true then (if t110 = (-49) then (some (t111 == 32)) else (some false)) else (some false))) = some r := by first | (rw [hy113]; with_reducible exact H) | (have H2_ := (Option.bind_some _ _).symm.trans H; rw [hy113]; with_reducible exact H2_) | (have H2_ := (Option.bind_some _ _).symm.trans H; with_reducible exact H2_) | with_reducible exact H | (rw [hy113]; exact H) | exact H
  have Ny113 := Aside0.mk hy113
  clear hy113
  replace H := Option.bind_eq_some_iff.mp H
  obtain ⟨t116, A80, H⟩ := H
  replace H : (if t116 = true then (if t110 = (-49) then (some (t111 == 32)) else (some false)) else (some false)) = some r := H
  have A8 := Aside0.mk A80
  clear A80
  by_cases c9 : t116 = true
  rotate_left
  · replace c9 := Bool.eq_false_iff.mpr c9
    subst c9
    have H1 : (some false) = some r := by rw [if_neg (show ¬ (false = true) by decide)] at H; exact H
    clear H
    have H := H1
    clear H1
    exact absurd (hT.symm.trans (Option.some.inj H).symm) (by decide)
  subst c9
  have H1 : (if t110 = (-49) then (some (t111 == 32)) else (some false)) = some r := by rw [if_pos rfl] at H; exact H
  clear H
  have H := H1
  clear H1
  by_cases c10 : t110 = (-49)
  rotate_left
  · rw [if_neg c10] at H
    have c10b0 : (t110 == (-49)) = false := beq_eq_false_iff_ne.mpr c10
    have c10b1 : (t110 != (-49)) = true := bne_iff_ne.mpr c10
    exact absurd (hT.symm.trans (Option.some.inj H).symm) (by decide)
  rw [if_pos c10] at H
  have c10b0 : (t110 == (-49)) = true := beq_iff_eq.mpr c10
  have c10b1 : (t110 != (-49)) = false := bne_eq_false_iff_eq.mpr c10
  clear c10
  clear hT
  obtain rfl := Option.some.inj H
  go_enter Try.func18, Try.ntmps18
  go_wp2_with (first | ((with_reducible refine gate_dst (N := 9) rfl ?_); (try (refine gate_guard (by rfl) ?_; dsimp only)); refine Kd.R_lit (Kd.int .i64) _ 3 ?hg (N := 9) ?hd (xs := ([0, 50, 100, 150, 200] : List Int)) (inner := [.int .i64 0, .int .i64 50, .int .i64 100, .int .i64 150, .int .i64 200]) (ok := fun _ => True) (okp := fun _ => True) ?hr ?hp (fun _ hk => hk) trivial (Below.refl _ _) (Nat.le_refl _) (by simp) ?_; (case hd => rfl); (case hg => rfl); (case hr => first | (go_simp; done) | (go_simp; rfl)); (case hp => exact (Reps.one (show Kd.M (Kd.int .i64) _ _ _ 0 [.int .i64 0] from rfl) (Reps.one (show Kd.M (Kd.int .i64) _ _ _ 50 [.int .i64 50] from rfl) (Reps.one (show Kd.M (Kd.int .i64) _ _ _ 100 [.int .i64 100] from rfl) (Reps.one (show Kd.M (Kd.int .i64) _ _ _ 150 [.int .i64 150] from rfl) (Reps.one (show Kd.M (Kd.int .i64) _ _ _ 200 [.int .i64 200] from rfl) (Reps.none _ _))))))); intro v102 w11 ho12 hb hg_ hnew_; clear hg_ hnew_; (first | rw [← Ny101.out] at ho12 | (simp only [Int.reduceToNat] at ho12; rw [← Ny101.out] at ho12)); have n0_ := Aside0.mk (Kd.R_lower ho12 (below_size (by repeat (first | (with_reducible first | exact HB.out | apply below_alloc | apply pw_below_drewN | apply below_drew1) | exact HB.out)))); have n1_ := Aside0.mk (below_step (by repeat (first | (with_reducible first | exact HB.out | apply below_alloc | apply pw_below_drewN | apply below_drew1) | exact HB.out)) hb); clear HB; have HO103 := n0_; have HB := n1_; clear n0_ n1_; clear hb ho12; obtain ⟨Ao13, co13, eo13⟩ := Kd.R_slice HO103.out; subst eo13) | ((with_reducible refine gate_callee (f := 24) rfl ?_); refine goesL_ (some 12) rfl rfl Try.func24 (by kernel_rfl) rfl #[.slice Ao13 y101.length co13, .int .i64 50, .int .i64 100] rfl (by (try simp only [List.map_toArray, List.map_cons, List.map_nil]); first | done | rfl | (simp only [List.length_drop, List.length_take]; rfl)) ?_; (with_reducible refine (pull_Number.calls k _ _ y101 50 100 t104 t105 _ ?side1 ?side2 A1.out).mono ?_); (case side1 => repeat (first | exact (Kd.R_reads' HO103.out).2.2 | (with_reducible refine Kd.C_alloc ?_ _) | (with_reducible refine Kd.C_drewN ?_ _) | (with_reducible refine Kd.C_drew ?_))); (case side2 => exact (Kd.R_reads' HO103.out).2.1); rintro e w14 ⟨rfl, hb⟩; refine ⟨_, rfl, ?_⟩; have n0_ := Aside0.mk (Kd.R_below (by (with_reducible repeat (first | apply Kd.R_alloc | apply Kd.R_drewN | apply Kd.R_drew)); exact HO103.out) hb); have n1_ := Aside0.mk (below_step (by repeat (first | (with_reducible first | exact HB.out | apply below_alloc | apply pw_below_drewN | apply below_drew1) | exact HB.out)) hb); clear HO103; clear HB; have HO103 := n0_; have HB := n1_; clear n0_ n1_; (try clear hb); (try clear hb2); (try clear hk); (try clear hi)) | ((with_reducible refine gate_callee (f := 31) rfl ?_); refine goesL_ (some 17) rfl rfl Try.func31 (by kernel_rfl) rfl #[.slice Ao13 y101.length co13, .int .i64 50, .int .i64 100] rfl (by (try simp only [List.map_toArray, List.map_cons, List.map_nil]); first | done | rfl | (simp only [List.length_drop, List.length_take]; rfl)) ?_; (with_reducible refine (pull_Fewest.calls k _ _ y101 50 100 t106 t107 _ ?side1 ?side2 A2.out).mono ?_); (case side1 => repeat (first | exact (Kd.R_reads' HO103.out).2.2 | (with_reducible refine Kd.C_alloc ?_ _) | (with_reducible refine Kd.C_drewN ?_ _) | (with_reducible refine Kd.C_drew ?_))); (case side2 => exact (Kd.R_reads' HO103.out).2.1); rintro e w15 ⟨v108, rfl, ho0, hb⟩; refine ⟨_, rfl, ?_⟩; have n0_ := Aside0.mk (Kd.R_elder' (by (with_reducible repeat (first | apply Kd.R_alloc | apply Kd.R_drewN | apply Kd.R_drew)); exact HO103.out) (Kd.R_base ho0) hb); have n1_ := Aside0.mk (Kd.R_lower (Kd.R_new' ho0 (Kd.R_lt (by (with_reducible repeat (first | apply Kd.R_alloc | apply Kd.R_drewN | apply Kd.R_drew)); exact HO103.out))) (below_size (by repeat (first | (with_reducible first | exact HB.out | apply below_alloc | apply pw_below_drewN | apply below_drew1) | exact HB.out)))); have n2_ := Aside0.mk (below_step (by repeat (first | (with_reducible first | exact HB.out | apply below_alloc | apply pw_below_drewN | apply below_drew1) | exact HB.out)) hb); clear HO103; clear HB; have HO103 := n0_; have HO109 := n1_; have HB := n2_; clear n0_ n1_ n2_; (try clear hb); (try clear hb2); (try clear hk); (try clear hi); (try clear ho0)) | ((with_reducible refine gate_callee (f := 14) rfl ?_); refine goesL_ (some 22) rfl rfl Try.func14 (by kernel_rfl) rfl #[.agg #[.int .i64 600, .int .i64 3, .int .i64 1000, .int .i64 2500]] rfl (by (try simp only [List.map_toArray, List.map_cons, List.map_nil]); first | done | rfl | (simp only [List.length_drop, List.length_take]; rfl)) ?_; (with_reducible refine (pull_Free.calls k 600 3 1000 2500 t110 t111 t112 _ A3.out).mono ?_); rintro e w16 ⟨rfl, hb⟩; refine ⟨_, rfl, ?_⟩; have n0_ := Aside0.mk (Kd.R_below (by (with_reducible repeat (first | apply Kd.R_alloc | apply Kd.R_drewN | apply Kd.R_drew)); exact HO103.out) hb); have n1_ := Aside0.mk (Kd.R_below (by (with_reducible repeat (first | apply Kd.R_alloc | apply Kd.R_drewN | apply Kd.R_drew)); exact HO109.out) hb); have n2_ := Aside0.mk (below_step (by repeat (first | (with_reducible first | exact HB.out | apply below_alloc | apply pw_below_drewN | apply below_drew1) | exact HB.out)) hb); clear HO103; clear HO109; clear HB; have HO103 := n0_; have HO109 := n1_; have HB := n2_; clear n0_ n1_ n2_; (try clear hb); (try clear hb2); (try clear hk); (try clear hi)) | ((with_reducible refine gate_dst (N := 42) rfl ?_); (try (refine gate_guard (by rfl) ?_; dsimp only)); refine Kd.R_lit (Kd.int .i64) _ 3 ?hg (N := 42) ?hd (xs := ([0, 2, 4] : List Int)) (inner := [.int .i64 0, .int .i64 2, .int .i64 4]) (ok := fun _ => True) (okp := fun _ => True) ?hr ?hp (fun _ hk => hk) trivial (Below.refl _ _) (Nat.le_refl _) (by simp) ?_; (case hd => rfl); (case hg => rfl); (case hr => first | (go_simp; done) | (go_simp; rfl)); (case hp => exact (Reps.one (show Kd.M (Kd.int .i64) _ _ _ 0 [.int .i64 0] from rfl) (Reps.one (show Kd.M (Kd.int .i64) _ _ _ 2 [.int .i64 2] from rfl) (Reps.one (show Kd.M (Kd.int .i64) _ _ _ 4 [.int .i64 4] from rfl) (Reps.none _ _))))); intro v114 w17 ho18 hb hg_ hnew_; clear hg_ hnew_; (first | rw [← Ny113.out] at ho18 | (simp only [Int.reduceToNat] at ho18; rw [← Ny113.out] at ho18)); have n0_ := Aside0.mk (Kd.R_elder' (by (with_reducible repeat (first | apply Kd.R_alloc | apply Kd.R_drewN | apply Kd.R_drew)); exact HO103.out) (Kd.R_base ho18) hb); have n1_ := Aside0.mk (Kd.R_elder' (by (with_reducible repeat (first | apply Kd.R_alloc | apply Kd.R_drewN | apply Kd.R_drew)); exact HO109.out) (Kd.R_base ho18) hb); have n2_ := Aside0.mk (Kd.R_lower (Kd.R_new' (Kd.R_new' ho18 (Kd.R_lt (by (with_reducible repeat (first | apply Kd.R_alloc | apply Kd.R_drewN | apply Kd.R_drew)); exact HO103.out))) (Kd.R_lt (by (with_reducible repeat (first | apply Kd.R_alloc | apply Kd.R_drewN | apply Kd.R_drew)); exact HO109.out))) (below_size (by repeat (first | (with_reducible first | exact HB.out | apply below_alloc | apply pw_below_drewN | apply below_drew1) | exact HB.out)))); have n3_ := Aside0.mk (below_step (by repeat (first | (with_reducible first | exact HB.out | apply below_alloc | apply pw_below_drewN | apply below_drew1) | exact HB.out)) hb); clear HO103; clear HO109; clear HB; have HO103 := n0_; have HO109 := n1_; have HO115 := n2_; have HB := n3_; clear n0_ n1_ n2_ n3_; clear hb ho18; obtain ⟨Ao19, co19, eo19⟩ := Kd.R_slice HO109.out; subst eo19; obtain ⟨Ao20, co20, eo20⟩ := Kd.R_slice HO115.out; subst eo20) | (go_at_call 28; (with_reducible refine (dropperlaw04_SameInts.calls k _ _ t106 _ _ y113 true _ ?side1 ?side2 ?side3 ?side4 A8.out).mono ?_); (case side1 => repeat (first | exact (Kd.R_reads' HO109.out).2.2 | (with_reducible refine Kd.C_alloc ?_ _) | (with_reducible refine Kd.C_drewN ?_ _) | (with_reducible refine Kd.C_drew ?_))); (case side2 => exact (Kd.R_reads' HO109.out).2.1); (case side3 => repeat (first | exact (Kd.R_reads' HO115.out).2.2 | (with_reducible refine Kd.C_alloc ?_ _) | (with_reducible refine Kd.C_drewN ?_ _) | (with_reducible refine Kd.C_drew ?_))); (case side4 => exact (Kd.R_reads' HO115.out).2.1); rintro e w' ⟨rfl, ⟨nd, rfl⟩⟩))
  go_ret
  exact ⟨by first | rfl | (simp [errW_none, errW_some] <;> rfl) | (simp [*, errW_none, errW_some] <;> rfl), by repeat (first | (with_reducible first | exact HB.out | apply below_alloc | apply pw_below_drewN | apply below_drew1) | exact HB.out)⟩
set_option maxRecDepth 100000 in
theorem dropperlaw04_Awake.is_true (k : Nat) (r : Bool) (h : dropperlaw04_Awake.f k = some r) : r = true := by
  have h0 : dropperlaw04_Awake.f 200 = some true := by decide +kernel
  rcases Nat.le_total k 200 with hk | hk
  · exact Option.some.inj ((at_rounds (fun k => dropperlaw04_Awake.mono k) hk h).symm.trans h0)
  · exact Option.some.inj (h.symm.trans (at_rounds (fun k => dropperlaw04_Awake.mono k) hk h0))
theorem dropperlaw04_Awake.calls (k : Nat)  (r : Bool) (w : World) (h : dropperlaw04_Awake.f k = some r) :
    Calls Try.prog 18 #[] w fun e w' => e = .returned (.bool r) ∧ Below w.heap.size w w' := dropperlaw04_Awake.calls_true k r w h (dropperlaw04_Awake.is_true k r h)

end Go.Proofs.Ytiebfmenkpodeaa.G
