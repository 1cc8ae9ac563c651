/- Functions of the seat and plain laws about them: GF79. -/
import Derived.Test.YthbpibdfookbmaaGBase
import Derived.Test.YthbpibdfookbmaaZL0
import Derived.Test.YthbpibdfookbmaaZL7
section
namespace Go.Proofs.Ythbpibdfookbmaa.G
open Go.RowKit Go.Proofs.YthbpibdfookbmaaW.PrintWords Go.Proofs.YthbpibdfookbmaaW.PrintLast Go.Proofs.YthbpibdfookbmaaW.PrintMore
attribute [local go_sem] max2_int min2_int max_two min_two max_three min_three max_four min_four   -- for this text's walks alone
set_option linter.unusedVariables false
set_option linter.unusedSimpArgs false

/-! ### ice_game_urgent: function 79 -/
set_option maxHeartbeats 8000000 in
set_option maxRecDepth 100000 in
theorem ice_game_digit.quiet (g : Nat) (s0_0 : List Int) (s0_1 : List Int) (s0_2 : Int) (a1 : Int) (a2 : Int) (r1 : Int) (r2 : Int) (w0 w : World) (hI : IsS87 w0 w g s0_0 s0_1 s0_2) (hB : Below w0.heap.size w0 w) (h : ice_game_digit.f s0_0 s0_1 s0_2 a1 a2 = some (r1, r2)) :
    Calls Try.prog 83 #[.pointer (some ⟨g, 0, none⟩), .int .i64 a1, .int .i64 a2] w fun e w' => e = .returned (.int .i64 r1) ∧ Drawn0 w w' := by
  have HI0 := Aside0.mk hI
  have HK := Aside0.mk (KeepBut.refl w g none)
  have HL := Aside0.mk hB.size
  clear hI
  have HW0 := Aside0.mk hB.size
  have HB := Aside0.mk hB
  clear hB
  have H : (if 0 ≤ a2 then (if a2 < (s0_1.length : Int) then (if (rd s0_1 a2) = 0 then (none) else (if a2 < (s0_0.length : Int) then (if (rd s0_0 a2) = 0 then (none) else (some (wrap64 ((Int.tmod (wrap64 (Int.tdiv a1 (rd s0_1 a2))) (rd s0_0 a2)) + 1), s0_2))) else (none))) else (none)) else (none)) = some (r1, r2) := h
  clear h
  by_cases c4 : 0 ≤ a2
  rotate_left
  · rw [if_neg c4] at H
    exact absurd H (by simp)

  rw [if_pos c4] at H
  have c4b0 : decide (0 ≤ a2) = true := decide_eq_true c4
  clear c4
  by_cases c5 : a2 < (s0_1.length : Int)
  rotate_left
  · rw [if_neg c5] at H
    exact absurd H (by simp)
  rw [if_pos c5] at H
  have c5b0 : decide (a2 < (s0_1.length : Int)) = true := decide_eq_true c5
  clear c5
  by_cases c6 : (rd s0_1 a2) = 0
  · rw [if_pos c6] at H
    exact absurd H (by simp)
  rw [if_neg c6] at H
  have c6b0 : ((rd s0_1 a2) == 0) = false := beq_eq_false_iff_ne.mpr c6
  have c6b1 : ((rd s0_1 a2) != 0) = true := bne_iff_ne.mpr c6
  by_cases c7 : a2 < (s0_0.length : Int)
  rotate_left
  · rw [if_neg c7] at H
    exact absurd H (by simp)
  rw [if_pos c7] at H
  have c7b0 : decide (a2 < (s0_0.length : Int)) = true := decide_eq_true c7
  clear c7
  by_cases c8 : (rd s0_0 a2) = 0
  · rw [if_pos c8] at H
    exact absurd H (by simp)
  rw [if_neg c8] at H
  have c8b0 : ((rd s0_0 a2) == 0) = false := beq_eq_false_iff_ne.mpr c8
  have c8b1 : ((rd s0_0 a2) != 0) = true := bne_iff_ne.mpr c8
  simp only [Option.some.injEq, Prod.mk.injEq] at H
  obtain ⟨rfl, rfl⟩ := H
  obtain ⟨ASz9_0, cSz9_0, ASz9_1, cSz9_1, HGz9, hgz9, ⟨HSz9_0, HSLz9_0⟩, ⟨HSz9_1, HSLz9_1⟩⟩ := HI0.out
  have hcz9_0 := cellS87_0 HGz9
  have hcz9_1 := cellS87_1 HGz9
  have hcz9_2 := cellS87_2 HGz9
  have hfz9_2 := blk_frozen HGz9 2
  clear HGz9 hgz9
  have p101 : 0 ≤ (a2 : Int) := of_decide_eq_true (by first | (with_reducible assumption) | assumption)
  have q101 : a2 < (s0_1.length : Int) := of_decide_eq_true (by first | (with_reducible assumption) | assumption)
  obtain ⟨ad101, e101, hx101_0⟩ := Kd.at_int HSz9_1 a2 p101 q101
  cases e101
  replace hx101_0 := pw_cell_below HB.out hx101_0
  replace p101 := eq_true p101
  replace q101 := eq_true q101
  have p102 : 0 ≤ (a2 : Int) := of_decide_eq_true (by first | (with_reducible assumption) | assumption)
  have q102 : a2 < (s0_0.length : Int) := of_decide_eq_true (by first | (with_reducible assumption) | assumption)
  obtain ⟨ad102, e102, hx102_0⟩ := Kd.at_int HSz9_0 a2 p102 q102
  cases e102
  replace hx102_0 := pw_cell_below HB.out hx102_0
  replace p102 := eq_true p102
  replace q102 := eq_true q102
  go_enter Try.func83, Try.ntmps83
  go_wp2
  repeat (go_quiet (fail); try go_wp2)
  go_ret
  exact ⟨by first | rfl | (simp; done) | (simp [*]; done), by repeat (first | exact Drawn0.refl _ | apply Drawn0.step)⟩
def ice_game_urgent_2.f (s0_0 : List Int) (s0_1 : List Int) (s0_2 : Int) (a1 : Int) (z0 : Int) (z1 : Int) : Option Int := (ice_game_digit.f s0_0 s0_1 s0_2 a1 z0).bind fun d0 => (ice_game_digit.f s0_0 s0_1 s0_2 a1 z1).bind fun d1 => cmp_Compare_int.f d0.1 d1.1
set_option maxHeartbeats 8000000 in
set_option maxRecDepth 100000 in
theorem ice_game_urgent_2.calls (z0 z1 : Int) (b0 b1 g : Nat) (s0_0 : List Int) (s0_1 : List Int) (s0_2 : Int) (a1 : Int) (q : Int) (w0 w : World) (hI : IsS87 w0 w g s0_0 s0_1 s0_2) (hB : Below w0.heap.size w0 w) (hbk0 : w.heap[b0]? = some (.cells #[.pointer (some ⟨g, 0, none⟩)] 57 (0, 0))) (hbk1 : w.heap[b1]? = some (.cells #[.int .i64 a1] 3 (0, 0))) (h : ice_game_urgent_2.f s0_0 s0_1 s0_2 a1 z0 z1 = some q) :
    Calls Try.prog 93 #[.int .i64 z0, .int .i64 z1, .pointer (some ⟨b0, 0, none⟩), .pointer (some ⟨b1, 0, none⟩)] w fun e w' => e = .returned (.int .i64 q) ∧ Drawn0 w w' := by
  unfold ice_game_urgent_2.f at h
  obtain ⟨d0, hd0, h⟩ := Option.bind_eq_some_iff.mp h
  obtain ⟨d1, hd1, hc⟩ := Option.bind_eq_some_iff.mp h
  clear h
  have hcz0 : w.cell? ⟨b0, 0, none⟩ = some (.pointer (some ⟨g, 0, none⟩)) := (blk_cell hbk0 0).trans rfl
  have hcz1 : w.cell? ⟨b1, 0, none⟩ = some (.int .i64 a1) := (blk_cell hbk1 0).trans rfl
  have hfz0 := blk_frozen hbk0 0
  have hfz1 := blk_frozen hbk1 0
  clear hbk0 hbk1
  go_enter Try.func93, Try.ntmps93
  go_wp2_with (first | (go_at_call 83; (with_reducible refine (ice_game_digit.quiet g s0_0 s0_1 s0_2 a1 z0 d0.1 d0.2 w0 _ (by repeat (first | exact hI | apply IsS87.drewN | apply IsS87.drew)) (by repeat (first | exact hB | apply pw_below_drewN | apply below_drew1)) hd0).mono ?_); rintro e w' ⟨rfl, ⟨nd, rfl⟩⟩; (try first | exact ⟨rfl, _, World.drewN_drewN _ _ _⟩ | exact ⟨rfl, _, Eq.trans (World.drewN_drewN _ _ _) (congrArg (World.drewN _) (Nat.add_assoc _ _ _))⟩)) | (go_at_call 83; (with_reducible refine (ice_game_digit.quiet g s0_0 s0_1 s0_2 a1 z1 d1.1 d1.2 w0 _ (by repeat (first | exact hI | apply IsS87.drewN | apply IsS87.drew)) (by repeat (first | exact hB | apply pw_below_drewN | apply below_drew1)) hd1).mono ?_); rintro e w' ⟨rfl, ⟨nd, rfl⟩⟩; (try first | exact ⟨rfl, _, World.drewN_drewN _ _ _⟩ | exact ⟨rfl, _, Eq.trans (World.drewN_drewN _ _ _) (congrArg (World.drewN _) (Nat.add_assoc _ _ _))⟩)) | (go_at_call 78; (with_reducible refine (cmp_Compare_int.calls d0.1 d1.1 q _ hc).mono ?_); rintro e w' ⟨rfl, ⟨nd, rfl⟩⟩; (try first | exact ⟨rfl, _, World.drewN_drewN _ _ _⟩ | exact ⟨rfl, _, Eq.trans (World.drewN_drewN _ _ _) (congrArg (World.drewN _) (Nat.add_assoc _ _ _))⟩)))
  repeat (go_quiet (first | (go_at_call 83; (with_reducible refine (ice_game_digit.quiet g s0_0 s0_1 s0_2 a1 z0 d0.1 d0.2 w0 _ (by repeat (first | exact hI | apply IsS87.drewN | apply IsS87.drew)) (by repeat (first | exact hB | apply pw_below_drewN | apply below_drew1)) hd0).mono ?_); rintro e w' ⟨rfl, ⟨nd, rfl⟩⟩; (try first | exact ⟨rfl, _, World.drewN_drewN _ _ _⟩ | exact ⟨rfl, _, Eq.trans (World.drewN_drewN _ _ _) (congrArg (World.drewN _) (Nat.add_assoc _ _ _))⟩)) | (go_at_call 83; (with_reducible refine (ice_game_digit.quiet g s0_0 s0_1 s0_2 a1 z1 d1.1 d1.2 w0 _ (by repeat (first | exact hI | apply IsS87.drewN | apply IsS87.drew)) (by repeat (first | exact hB | apply pw_below_drewN | apply below_drew1)) hd1).mono ?_); rintro e w' ⟨rfl, ⟨nd, rfl⟩⟩; (try first | exact ⟨rfl, _, World.drewN_drewN _ _ _⟩ | exact ⟨rfl, _, Eq.trans (World.drewN_drewN _ _ _) (congrArg (World.drewN _) (Nat.add_assoc _ _ _))⟩)) | (go_at_call 78; (with_reducible refine (cmp_Compare_int.calls d0.1 d1.1 q _ hc).mono ?_); rintro e w' ⟨rfl, ⟨nd, rfl⟩⟩; (try first | exact ⟨rfl, _, World.drewN_drewN _ _ _⟩ | exact ⟨rfl, _, Eq.trans (World.drewN_drewN _ _ _) (congrArg (World.drewN _) (Nat.add_assoc _ _ _))⟩))); try go_wp2_with (first | (go_at_call 83; (with_reducible refine (ice_game_digit.quiet g s0_0 s0_1 s0_2 a1 z0 d0.1 d0.2 w0 _ (by repeat (first | exact hI | apply IsS87.drewN | apply IsS87.drew)) (by repeat (first | exact hB | apply pw_below_drewN | apply below_drew1)) hd0).mono ?_); rintro e w' ⟨rfl, ⟨nd, rfl⟩⟩; (try first | exact ⟨rfl, _, World.drewN_drewN _ _ _⟩ | exact ⟨rfl, _, Eq.trans (World.drewN_drewN _ _ _) (congrArg (World.drewN _) (Nat.add_assoc _ _ _))⟩)) | (go_at_call 83; (with_reducible refine (ice_game_digit.quiet g s0_0 s0_1 s0_2 a1 z1 d1.1 d1.2 w0 _ (by repeat (first | exact hI | apply IsS87.drewN | apply IsS87.drew)) (by repeat (first | exact hB | apply pw_below_drewN | apply below_drew1)) hd1).mono ?_); rintro e w' ⟨rfl, ⟨nd, rfl⟩⟩; (try first | exact ⟨rfl, _, World.drewN_drewN _ _ _⟩ | exact ⟨rfl, _, Eq.trans (World.drewN_drewN _ _ _) (congrArg (World.drewN _) (Nat.add_assoc _ _ _))⟩)) | (go_at_call 78; (with_reducible refine (cmp_Compare_int.calls d0.1 d1.1 q _ hc).mono ?_); rintro e w' ⟨rfl, ⟨nd, rfl⟩⟩; (try first | exact ⟨rfl, _, World.drewN_drewN _ _ _⟩ | exact ⟨rfl, _, Eq.trans (World.drewN_drewN _ _ _) (congrArg (World.drewN _) (Nat.add_assoc _ _ _))⟩))))
  go_ret
  exact ⟨by first | rfl | (simp; done) | (simp [*]; done), by repeat (first | exact Drawn0.refl _ | apply Drawn0.step)⟩
def ice_game_urgent.f (k : Nat) (s0_0 : List Int) (s0_1 : List Int) (s0_2 : Int) (a1 : Int) (l2 : List Bool) : Option (Int × Int) := (ice_game_choices.f k s0_0 s0_1 s0_2 a1 l2).bind fun bt103 => ((slices_DeleteFunc_int_int.f k bt103.1 ice_game_urgent_1.f).bind fun t107 => ((slices_MinFunc_int_int.f k t107 (ice_game_urgent_2.f s0_0 s0_1 bt103.2 a1)).bind fun t110 => (some (t110, bt103.2))))
theorem ice_game_urgent.mono : ∀ a0 a1 a2 a3 a4 k, LeO (ice_game_urgent.f k a0 a1 a2 a3 a4) (ice_game_urgent.f (k + 1) a0 a1 a2 a3 a4) := by
  intro a0 a1 a2 a3 a4 k
  unfold ice_game_urgent.f
  repeat' first
      | (with_reducible exact ice_game_choices.mono _ _ _ _ _ _)
      | (with_reducible exact slices_DeleteFunc_int_int.mono _ _ _)
      | (with_reducible exact slices_MinFunc_int_int.mono _ _ _)
      | (with_reducible exact LeO.refl _)
      | (with_reducible exact LeO.none _)
      | (with_reducible refine LeO.ite ?_ ?_)
      | (with_reducible refine LeO.bind ?_ (fun _ => ?_))
      | exact ice_game_choices.mono _ _ _ _ _ _
      | exact slices_DeleteFunc_int_int.mono _ _ _
      | exact slices_MinFunc_int_int.mono _ _ _
      | exact LeO.none _
      | refine LeO.ite ?_ ?_
      | refine LeO.bind ?_ (fun _ => ?_)
set_option maxHeartbeats 8000000 in
set_option maxRecDepth 100000 in
theorem ice_game_urgent.calls (k : Nat) (g : Nat) (s0_0 : List Int) (s0_1 : List Int) (s0_2 : Int) (a1 : Int) (A2 : Option Addr) (c2 : Nat) (l2 : List Bool) (r1 : Int) (r2 : Int) (w0 w : World) (hI : IsS87 w0 w g s0_0 s0_1 s0_2) (hB : Below w0.heap.size w0 w) (hr2 : Kd.C Kd.bool w A2 l2.length l2) (hc2 : l2.length ≤ c2) (hf2 : ∀ ad, A2 = some ad → 0 < l2.length → ad.block ≠ g) (h : ice_game_urgent.f k s0_0 s0_1 s0_2 a1 l2 = some (r1, r2)) :
    Calls Try.prog 79 #[.pointer (some ⟨g, 0, none⟩), .int .i64 a1, .slice A2 l2.length c2] w fun e w' => e = .returned (.int .i64 r1) ∧ IsS87 w0 w' g s0_0 s0_1 r2 ∧ Below w0.heap.size w0 w' ∧ KeepBut w w' g none := by
  have HR2 := Aside0.mk hr2
  have HC2 := Aside0.mk hc2
  clear hr2 hc2
  have HI0 := Aside0.mk hI
  have HK := Aside0.mk (KeepBut.refl w g none)
  have HL := Aside0.mk hB.size
  clear hI
  have HW0 := Aside0.mk hB.size
  have HB := Aside0.mk hB
  clear hB
  have H : ((ice_game_choices.f k s0_0 s0_1 s0_2 a1 l2).bind fun bt103 => ((slices_DeleteFunc_int_int.f k bt103.1 ice_game_urgent_1.f).bind fun t107 => ((slices_MinFunc_int_int.f k t107 (ice_game_urgent_2.f s0_0 s0_1 bt103.2 a1)).bind fun t110 => (some (t110, bt103.2))))) = some (r1, r2) := h
  clear h
  replace H := Option.bind_eq_some_iff.mp H
  obtain ⟨⟨t103, t106⟩, A40, H⟩ := H
  replace H : ((slices_DeleteFunc_int_int.f k t103 ice_game_urgent_1.f).bind fun t107 => ((slices_MinFunc_int_int.f k t107 (ice_game_urgent_2.f s0_0 s0_1 t106 a1)).bind fun t110 => (some (t110, t106)))) = some (r1, r2) := H
  have A4 := Aside0.mk A40
  clear A40
  replace H := Option.bind_eq_some_iff.mp H
  obtain ⟨t107, A50, H⟩ := H
  replace H : ((slices_MinFunc_int_int.f k t107 (ice_game_urgent_2.f s0_0 s0_1 t106 a1)).bind fun t110 => (some (t110, t106))) = some (r1, r2) := H
  have A5 := Aside0.mk A50
  clear A50
  replace H := Option.bind_eq_some_iff.mp H
  obtain ⟨t110, A60, H⟩ := H
  replace H : (some (t110, t106)) = some (r1, r2) := H
  have A6 := Aside0.mk A60
  clear A60
  simp only [Option.some.injEq, Prod.mk.injEq] at H
  obtain ⟨rfl, rfl⟩ := H
  go_enter Try.func79, Try.ntmps79
  go_wp2_with (first | ((with_reducible refine gate_dst (N := 3) rfl ?_); refine box_event ?hg (N := 3) ?hd (cs := #[.pointer (some ⟨g, 0, none⟩)]) (t := 57) ?hr ?_; (case hd => rfl); (case hg => rfl); (case hr => first | (go_simp; done) | (go_simp; rfl)); intro gb101 hg w7 hbox hb; have n0_ := Aside0.mk (IsS87.below (by repeat (first | (with_reducible first | exact HI0.out | apply IsS87.alloc | apply IsS87.drewN | apply IsS87.drew | apply IsS87.set_2) | exact HI0.out)) hb); have n1_ := Aside0.mk (KeepBut.trans (by repeat (first | (with_reducible first | exact HK.out | apply KeepBut.set_ | apply keep_drewN | apply keep_drew | apply keep_alloc) | exact HK.out)) (KeepBut.of_below hb g none) (.inl rfl)); have n2_ := Aside0.mk (below_step (by repeat (first | (with_reducible first | exact HB.out | apply below_alloc | apply pw_below_drewN | apply below_drew1 | refine below_set ?_ (IsS87.ge HI0.out)) | exact HB.out)) hb); have n3_ := Aside0.mk (hbox); have n4_ := Aside0.mk ((by rw [hg]; exact (keep_size (w := w) (g := g) (row := none) (by repeat (first | (with_reducible first | exact HK.out | apply KeepBut.set_ | apply keep_drewN | apply keep_drew | apply keep_alloc) | exact HK.out))) : w.heap.size ≤ gb101)); have n5_ := Aside0.mk ((Nat.le_trans HW0.out (by rw [hg]; exact (keep_size (w := w) (g := g) (row := none) (by repeat (first | (with_reducible first | exact HK.out | apply KeepBut.set_ | apply keep_drewN | apply keep_drew | apply keep_alloc) | exact HK.out))) : w.heap.size ≤ gb101) : w0.heap.size ≤ gb101)); have n6_ := Aside0.mk ((by rw [hg]; exact Nat.ne_of_lt (IsS87.lt (show IsS87 w0 _ g s0_0 s0_1 s0_2 from by repeat (first | (with_reducible first | exact HI0.out | apply IsS87.alloc | apply IsS87.drewN | apply IsS87.drew | apply IsS87.set_2) | exact HI0.out))) : g ≠ gb101)); have n7_ := Aside0.mk ((by rw [hg]; exact Nat.ne_of_gt (IsS87.lt (show IsS87 w0 _ g s0_0 s0_1 s0_2 from by repeat (first | (with_reducible first | exact HI0.out | apply IsS87.alloc | apply IsS87.drewN | apply IsS87.drew | apply IsS87.set_2) | exact HI0.out))) : gb101 ≠ g)); clear HI0; clear HK; clear HB; have HI0 := n0_; have HK := n1_; have HB := n2_; have BK101 := n3_; have GW101 := n4_; have GE101 := n5_; have NB0_101 := n6_; have NB101_0 := n7_; clear n0_ n1_ n2_ n3_ n4_ n5_ n6_ n7_; clear hb hbox hg) | ((with_reducible refine gate_dst (N := 4) rfl ?_); refine box_event ?hg (N := 4) ?hd (cs := #[.int .i64 a1]) (t := 3) ?hr ?_; (case hd => rfl); (case hg => rfl); (case hr => first | (go_simp; done) | (go_simp; rfl)); intro gb102 hg w8 hbox hb; have n0_ := Aside0.mk (IsS87.below (by repeat (first | (with_reducible first | exact HI0.out | apply IsS87.alloc | apply IsS87.drewN | apply IsS87.drew | apply IsS87.set_2 | refine IsS87.far ?_ NB0_101.out _) | exact HI0.out)) hb); have n1_ := Aside0.mk (bkB BK101 hb); have n2_ := Aside0.mk (KeepBut.trans (by repeat (first | (with_reducible first | exact HK.out | apply KeepBut.set_ | apply keep_drewN | apply keep_drew | apply keep_alloc | refine keep_far ?_ GW101.out _) | exact HK.out)) (KeepBut.of_below hb g none) (.inl rfl)); have n3_ := Aside0.mk (below_step (by repeat (first | (with_reducible first | exact HB.out | apply below_alloc | apply pw_below_drewN | apply below_drew1 | refine below_set ?_ (IsS87.ge HI0.out) | refine below_set ?_ GE101.out) | exact HB.out)) hb); have n4_ := Aside0.mk (hbox); have n5_ := Aside0.mk ((by rw [hg]; exact (keep_size (w := w) (g := g) (row := none) (by repeat (first | (with_reducible first | exact HK.out | apply KeepBut.set_ | apply keep_drewN | apply keep_drew | apply keep_alloc | refine keep_far ?_ GW101.out _) | exact HK.out))) : w.heap.size ≤ gb102)); have n6_ := Aside0.mk ((Nat.le_trans HW0.out (by rw [hg]; exact (keep_size (w := w) (g := g) (row := none) (by repeat (first | (with_reducible first | exact HK.out | apply KeepBut.set_ | apply keep_drewN | apply keep_drew | apply keep_alloc | refine keep_far ?_ GW101.out _) | exact HK.out))) : w.heap.size ≤ gb102) : w0.heap.size ≤ gb102)); have n7_ := Aside0.mk ((bkL BK101 hg : gb101 ≠ gb102)); have n8_ := Aside0.mk ((bkG BK101 hg : gb102 ≠ gb101)); have n9_ := Aside0.mk ((by rw [hg]; exact Nat.ne_of_lt (IsS87.lt (show IsS87 w0 _ g s0_0 s0_1 s0_2 from by repeat (first | (with_reducible first | exact HI0.out | apply IsS87.alloc | apply IsS87.drewN | apply IsS87.drew | apply IsS87.set_2 | refine IsS87.far ?_ NB0_101.out _) | exact HI0.out))) : g ≠ gb102)); have n10_ := Aside0.mk ((by rw [hg]; exact Nat.ne_of_gt (IsS87.lt (show IsS87 w0 _ g s0_0 s0_1 s0_2 from by repeat (first | (with_reducible first | exact HI0.out | apply IsS87.alloc | apply IsS87.drewN | apply IsS87.drew | apply IsS87.set_2 | refine IsS87.far ?_ NB0_101.out _) | exact HI0.out))) : gb102 ≠ g)); clear HI0; clear BK101; clear HK; clear HB; have HI0 := n0_; have BK101 := n1_; have HK := n2_; have HB := n3_; have BK102 := n4_; have GW102 := n5_; have GE102 := n6_; have NB101_102 := n7_; have NB102_101 := n8_; have NB0_102 := n9_; have NB102_0 := n10_; clear n0_ n1_ n2_ n3_ n4_ n5_ n6_ n7_ n8_ n9_ n10_; clear hb hbox hg; have hnb9 := NB101_102.out; have hnc9 := NB102_101.out; have hnb10 := NB101_0.out; have hnc10 := NB0_101.out; have hcz11_0 : w8.cell? ⟨gb101, 0, none⟩ = some (.pointer (some ⟨g, 0, none⟩)) := (blk_cell BK101.out 0).trans rfl; have hfz11_0 := blk_frozen BK101.out 0; have hnb12 := NB102_0.out; have hnc12 := NB0_102.out; have hcz13_0 : w8.cell? ⟨gb102, 0, none⟩ = some (.int .i64 a1) := (blk_cell BK102.out 0).trans rfl; have hfz13_0 := blk_frozen BK102.out 0) | ((with_reducible refine gate_callee (f := 60) rfl ?_); refine goesL_ (some 11) rfl rfl Try.func60 (by kernel_rfl) rfl #[.pointer (some ⟨g, 0, none⟩), .int .i64 a1, .slice A2 l2.length c2] rfl (by (try simp only [List.map_toArray, List.map_cons, List.map_nil]); first | done | rfl | (simp only [List.length_drop, List.length_take]; rfl)) ?_; (with_reducible refine (ice_game_choices.calls k g s0_0 s0_1 s0_2 a1 _ _ l2 t103 t106 w0 _ ?side1 ?side2 ?side3 ?side4 ?side5 A4.out).mono ?_); (case side1 => repeat (first | (with_reducible first | exact HI0.out | apply IsS87.alloc | apply IsS87.drewN | apply IsS87.drew | apply IsS87.set_2 | refine IsS87.far ?_ NB0_101.out _ | refine IsS87.far ?_ NB0_102.out _) | exact HI0.out)); (case side2 => repeat (first | (with_reducible first | exact HB.out | apply below_alloc | apply pw_below_drewN | apply below_drew1 | refine below_set ?_ (IsS87.ge HI0.out) | refine below_set ?_ GE101.out | refine below_set ?_ GE102.out) | exact HB.out)); (case side3 => exact Kd.C_keep false HR2.out (by repeat (first | (with_reducible first | exact HK.out | apply KeepBut.set_ | apply keep_drewN | apply keep_drew | apply keep_alloc | refine keep_far ?_ GW101.out _ | refine keep_far ?_ GW102.out _) | exact HK.out)) hf2); (case side4 => exact HC2.out); (case side5 => exact hf2); rintro e w14 ⟨v104, rfl, ho0, hi, hb, hk⟩; refine ⟨_, rfl, ?_⟩; have n0_ := Aside0.mk (KeepBut.blk hk (g' := gb101) (o := .cells #[.pointer (some ⟨g, 0, none⟩)] 57 (0, 0)) (bkU BK101) NB101_0.out (by simp)); have n1_ := Aside0.mk (KeepBut.blk hk (g' := gb102) (o := .cells #[.int .i64 a1] 3 (0, 0)) (bkU BK102) NB102_0.out (by simp)); have n2_ := Aside0.mk (Kd.R_lower (Kd.R_newB (Kd.R_newB ho0 (g := gb101) (o := .cells #[.pointer (some ⟨g, 0, none⟩)] 57 (0, 0)) (bkU BK101)) (g := gb102) (o := .cells #[.int .i64 a1] 3 (0, 0)) (bkU BK102)) (keep_size (w := w) (g := g) (row := none) (by repeat (first | (with_reducible first | exact HK.out | apply KeepBut.set_ | apply keep_drewN | apply keep_drew | apply keep_alloc | refine keep_far ?_ GW101.out _ | refine keep_far ?_ GW102.out _) | exact HK.out)))); have n3_ := Aside0.mk (KeepBut.trans (by repeat (first | (with_reducible first | exact HK.out | apply KeepBut.set_ | apply keep_drewN | apply keep_drew | apply keep_alloc | refine keep_far ?_ GW101.out _ | refine keep_far ?_ GW102.out _) | exact HK.out)) hk (.inl rfl)); have n4_ := Aside0.mk (hb); have n5_ := Aside0.mk (hi); clear BK101; clear BK102; clear HK; clear HB; clear HI0; have BK101 := n0_; have BK102 := n1_; have HO105 := n2_; have HK := n3_; have HB := n4_; have HI0 := n5_; clear n0_ n1_ n2_ n3_ n4_ n5_; (try clear hb); (try clear hb2); (try clear hk); (try clear hi); (try clear ho0); obtain ⟨Ao15, co15, eo15⟩ := Kd.R_slice HO105.out; subst eo15) | ((with_reducible refine gate_callee (f := 90) rfl ?_); refine goesL_ (some 12) rfl rfl Try.func90 (by kernel_rfl) rfl #[.slice Ao15 t103.length co15, .func (.func 91) #[] #[]] rfl (by (try simp only [List.map_toArray, List.map_cons, List.map_nil]); first | done | rfl | (simp only [List.length_drop, List.length_take]; rfl)) ?_; (with_reducible refine (slices_DeleteFunc_int_int.calls k (fun k_ => some k_ = (.slice Ao15 t103.length co15 : Value).ownBlock) (.slice Ao15 t103.length co15) t103 (enters_f Try.func91 (by kernel_rfl) rfl) ice_game_urgent_1.f t107 w0 _ ?side1 ?side2 ?side3 A5.out).mono ?_); (case side1 => repeat (first | (with_reducible first | exact HB.out | apply below_alloc | apply pw_below_drewN | apply below_drew1 | refine below_set ?_ (IsS87.ge HI0.out) | refine below_set ?_ GE101.out | refine below_set ?_ GE102.out) | exact HB.out)); (case side2 => exact Kd.R_lower (Kd.R_tight rfl HO105.out) HL.out); (case side3 => intro z0_ q0_ W_ hW_ hq_; have hc_ := ice_game_urgent_1.calls z0_ q0_ W_  hq_; exact hc_.mono (fun e_ w_ h_ => ⟨h_.1, (by obtain ⟨_, nd_, rfl⟩ := h_; exact pw_below_drewN (Below.refl _ _) _)⟩)); rintro e w16 ⟨v108, rfl, ho0, hb, hkp⟩; refine ⟨_, rfl, ?_⟩; have n0_ := Aside0.mk (IsS87.kept (by repeat (first | (with_reducible first | exact HI0.out | apply IsS87.alloc | apply IsS87.drewN | apply IsS87.drew | apply IsS87.set_2 | refine IsS87.far ?_ NB0_101.out _ | refine IsS87.far ?_ NB0_102.out _) | exact HI0.out)) hkp (fun hs_ => (fun e_ => (IsS87.own_ne HI0.out HO105.out (by decide)) e_) hs_)); have n1_ := Aside0.mk (blk_kept (bkU BK101) hkp (fun hs_ => (fun e_ => (Kd.R_away HO105.out (fun _ hk => hk.1.2)) e_) hs_)); have n2_ := Aside0.mk (blk_kept (bkU BK102) hkp (fun hs_ => (fun e_ => (Kd.R_away HO105.out (fun _ hk => hk.2)) e_) hs_)); have n3_ := Aside0.mk (Kd.R_mono (ok' := fun k_ => k_ ≠ gb101 ∧ k_ ≠ gb102) (Kd.R_raise (d := (Kd.int .i64)) (b := w0.heap.size) (b' := w.heap.size) (fun _ _ _ _ h_ => h_) ho0 (fun k_ e_ => Or.elim (ho0.1 k_ e_) (fun hs_ => (fun e_ => Kd.R_base HO105.out k_ e_.symm) hs_) (fun hn_ => Nat.le_trans (keep_size (w := w) (g := g) (row := none) (by repeat (first | (with_reducible first | exact HK.out | apply KeepBut.set_ | apply keep_drewN | apply keep_drew | apply keep_alloc | refine keep_far ?_ GW101.out _ | refine keep_far ?_ GW102.out _) | exact HK.out))) hn_))) (fun k_ hk_ => ⟨Or.elim hk_ (fun hs_ => fun e_ => (Kd.R_away HO105.out (fun _ hk => hk.1.2)) (by rw [← e_]; exact hs_)) (fun hn_ => (Kd.freshB (g := gb101) (o := .cells #[.pointer (some ⟨g, 0, none⟩)] 57 (0, 0)) (bkU BK101) k_ hn_)), Or.elim hk_ (fun hs_ => fun e_ => (Kd.R_away HO105.out (fun _ hk => hk.2)) (by rw [← e_]; exact hs_)) (fun hn_ => (Kd.freshB (g := gb102) (o := .cells #[.int .i64 a1] 3 (0, 0)) (bkU BK102) k_ hn_))⟩)); have n4_ := Aside0.mk (Kept.keepG (by repeat (first | (with_reducible first | exact HK.out | apply KeepBut.set_ | apply keep_drewN | apply keep_drew | apply keep_alloc | refine keep_far ?_ GW101.out _ | refine keep_far ?_ GW102.out _) | exact HK.out)) hkp (fun k_ hs_ => (fun e_ => .inr (Kd.R_base HO105.out k_ e_.symm)) hs_)); have n5_ := Aside0.mk (hb); clear HI0; clear BK101; clear BK102; clear HK; clear HB; clear HO105; have HI0 := n0_; have BK101 := n1_; have BK102 := n2_; have HO109 := n3_; have HK := n4_; have HB := n5_; clear n0_ n1_ n2_ n3_ n4_ n5_; (try clear hb); (try clear hkp); (try clear ho0); obtain ⟨Ao17, co17, eo17⟩ := Kd.R_slice HO109.out; subst eo17) | ((with_reducible refine gate_callee (f := 92) rfl ?_); refine goesL_ (some 15) rfl rfl Try.func92 (by kernel_rfl) rfl #[.slice Ao17 t107.length co17, .func (.func 93) #[] #[.pointer (some ⟨gb101, 0, none⟩), .pointer (some ⟨gb102, 0, none⟩)]] rfl (by (try simp only [List.map_toArray, List.map_cons, List.map_nil]); first | done | rfl | (simp only [List.length_drop, List.length_take]; rfl)) ?_; (with_reducible refine (slices_MinFunc_int_int.calls k _ _ t107 (enters_f Try.func93 (by kernel_rfl) rfl) (ice_game_urgent_2.f s0_0 s0_1 t106 a1) t110 _ ?side1 ?side2 ?side3 A6.out).mono ?_); (case side1 => repeat (first | exact (Kd.R_reads' HO109.out).2.2 | (with_reducible refine Kd.C_alloc ?_ _) | (with_reducible refine Kd.C_drewN ?_ _) | (with_reducible refine Kd.C_drew ?_))); (case side2 => exact (Kd.R_reads' HO109.out).2.1); (case side3 => intro z0_ z1_ q0_ W_ hW_ hq_; have hc_ := ice_game_urgent_2.calls z0_ z1_ gb101 gb102 g s0_0 s0_1 t106 a1 q0_ w0 W_ (IsS87.below (by repeat (first | (with_reducible first | exact HI0.out | apply IsS87.alloc | apply IsS87.drewN | apply IsS87.drew) | exact HI0.out)) hW_) (below_step (by repeat (first | (with_reducible first | exact HB.out | apply below_alloc | apply pw_below_drewN | apply below_drew1) | exact HB.out)) hW_) (blk_below (bkU BK101) hW_) (blk_below (bkU BK102) hW_) hq_; exact hc_.mono (fun e_ w_ h_ => ⟨h_.1, (by obtain ⟨_, nd_, rfl⟩ := h_; exact pw_below_drewN (Below.refl _ _) _)⟩)); rintro e w18 ⟨rfl, hb⟩; refine ⟨_, rfl, ?_⟩; have n0_ := Aside0.mk (Kd.R_below (by (with_reducible repeat (first | apply Kd.R_alloc | apply Kd.R_drewN | apply Kd.R_drew)); exact HO109.out) hb); have n1_ := Aside0.mk (IsS87.below (by repeat (first | (with_reducible first | exact HI0.out | apply IsS87.alloc | apply IsS87.drewN | apply IsS87.drew | apply IsS87.set_2 | refine IsS87.far ?_ NB0_101.out _ | refine IsS87.far ?_ NB0_102.out _) | exact HI0.out)) hb); have n2_ := Aside0.mk (bkB BK101 hb); have n3_ := Aside0.mk (bkB BK102 hb); have n4_ := Aside0.mk (KeepBut.trans (by repeat (first | (with_reducible first | exact HK.out | apply KeepBut.set_ | apply keep_drewN | apply keep_drew | apply keep_alloc | refine keep_far ?_ GW101.out _ | refine keep_far ?_ GW102.out _) | exact HK.out)) (KeepBut.of_below hb g none) (.inl rfl)); have n5_ := Aside0.mk (below_step (by repeat (first | (with_reducible first | exact HB.out | apply below_alloc | apply pw_below_drewN | apply below_drew1 | refine below_set ?_ (IsS87.ge HI0.out) | refine below_set ?_ GE101.out | refine below_set ?_ GE102.out) | exact HB.out)) hb); clear HO109; clear HI0; clear BK101; clear BK102; clear HK; clear HB; have HO109 := n0_; have HI0 := n1_; have BK101 := n2_; have BK102 := n3_; have HK := n4_; have HB := n5_; clear n0_ n1_ n2_ n3_ n4_ n5_; (try clear hb); (try clear hb2); (try clear hk); (try clear hi)))
  go_ret
  exact ⟨by first | rfl | (simp [errW_none, errW_some] <;> rfl) | (simp [*, errW_none, errW_some] <;> rfl), by repeat (first | (with_reducible first | exact HI0.out | apply IsS87.alloc | apply IsS87.drewN | apply IsS87.drew | apply IsS87.set_2 | refine IsS87.far ?_ NB0_101.out _ | refine IsS87.far ?_ NB0_102.out _) | exact HI0.out), by repeat (first | (with_reducible first | exact HB.out | apply below_alloc | apply pw_below_drewN | apply below_drew1 | refine below_set ?_ (IsS87.ge HI0.out) | refine below_set ?_ GE101.out | refine below_set ?_ GE102.out) | exact HB.out), by repeat (first | (with_reducible first | exact HK.out | apply KeepBut.set_ | apply keep_drewN | apply keep_drew | apply keep_alloc | refine keep_far ?_ GW101.out _ | refine keep_far ?_ GW102.out _) | exact HK.out)⟩


end Go.Proofs.Ythbpibdfookbmaa.G
end
