-- Written by this session's driver (wip/tools/printmore.py) over the kit's print, with hand-written parts.
import Derived.Test.YthbpibdfookbmaaGBase
import Derived.Test.YthbpibdfookbmaaGF53
namespace Go.Proofs.Ythbpibdfookbmaa.G
open Go.RowKit Go.Proofs.YthbpibdfookbmaaW.PrintWords Go.Proofs.YthbpibdfookbmaaW.PrintLast Go.Proofs.YthbpibdfookbmaaW.PrintMore
attribute [local go_sem] max2_int min2_int max_two min_two max_three min_three max_four min_four   -- for this text's walks alone
set_option linter.unusedVariables false
set_option linter.unusedSimpArgs false

/-! ### ice_game_digit: function 83 -/
def ice_game_digit.f (s0_0 : List Int) (s0_1 : List Int) (s0_2 : Int) (a1 : Int) (a2 : Int) : Option (Int × Int) := if 0 ≤ a2 then (if a2 < (s0_1.length : Int) then (if (rd s0_1 a2) = 0 then (none) else (if a2 < (s0_0.length : Int) then (if (rd s0_0 a2) = 0 then (none) else (some (wrap64 ((Int.tmod (wrap64 (Int.tdiv a1 (rd s0_1 a2))) (rd s0_0 a2)) + 1), s0_2))) else (none))) else (none)) else (none)
set_option maxHeartbeats 8000000 in
set_option maxRecDepth 100000 in
theorem ice_game_digit.calls (g : Nat) (s0_0 : List Int) (s0_1 : List Int) (s0_2 : Int) (a1 : Int) (a2 : Int) (r1 : Int) (r2 : Int) (w0 w : World) (hI : IsS87 w0 w g s0_0 s0_1 s0_2) (hB : Below w0.heap.size w0 w) (h : ice_game_digit.f s0_0 s0_1 s0_2 a1 a2 = some (r1, r2)) :
    Calls Try.prog 83 #[.pointer (some ⟨g, 0, none⟩), .int .i64 a1, .int .i64 a2] w fun e w' => e = .returned (.int .i64 r1) ∧ IsS87 w0 w' g s0_0 s0_1 r2 ∧ Below w0.heap.size w0 w' ∧ KeepBut w w' g none := by
  have HI0 := Aside0.mk hI
  have HK := Aside0.mk (KeepBut.refl w g none)
  have HL := Aside0.mk hB.size
  clear hI
  have HW0 := Aside0.mk hB.size
  have HB := Aside0.mk hB
  clear hB
  have H : (if 0 ≤ a2 then (if a2 < (s0_1.length : Int) then (if (rd s0_1 a2) = 0 then (none) else (if a2 < (s0_0.length : Int) then (if (rd s0_0 a2) = 0 then (none) else (some (wrap64 ((Int.tmod (wrap64 (Int.tdiv a1 (rd s0_1 a2))) (rd s0_0 a2)) + 1), s0_2))) else (none))) else (none)) else (none)) = some (r1, r2) := h
  clear h
  by_cases c4 : 0 ≤ a2
  rotate_left
  · rw [if_neg c4] at H
    exact absurd H (by simp)

  rw [if_pos c4] at H
  have c4b0 : decide (0 ≤ a2) = true := decide_eq_true c4
  clear c4
  by_cases c5 : a2 < (s0_1.length : Int)
  rotate_left
  · rw [if_neg c5] at H
    exact absurd H (by simp)
  rw [if_pos c5] at H
  have c5b0 : decide (a2 < (s0_1.length : Int)) = true := decide_eq_true c5
  clear c5
  by_cases c6 : (rd s0_1 a2) = 0
  · rw [if_pos c6] at H
    exact absurd H (by simp)
  rw [if_neg c6] at H
  have c6b0 : ((rd s0_1 a2) == 0) = false := beq_eq_false_iff_ne.mpr c6
  have c6b1 : ((rd s0_1 a2) != 0) = true := bne_iff_ne.mpr c6
  by_cases c7 : a2 < (s0_0.length : Int)
  rotate_left
  · rw [if_neg c7] at H
    exact absurd H (by simp)
  rw [if_pos c7] at H
  have c7b0 : decide (a2 < (s0_0.length : Int)) = true := decide_eq_true c7
  clear c7
  by_cases c8 : (rd s0_0 a2) = 0
  · rw [if_pos c8] at H
    exact absurd H (by simp)
  rw [if_neg c8] at H
  have c8b0 : ((rd s0_0 a2) == 0) = false := beq_eq_false_iff_ne.mpr c8
  have c8b1 : ((rd s0_0 a2) != 0) = true := bne_iff_ne.mpr c8
  simp only [Option.some.injEq, Prod.mk.injEq] at H
  obtain ⟨rfl, rfl⟩ := H
  obtain ⟨ASz9_0, cSz9_0, ASz9_1, cSz9_1, HGz9, hgz9, ⟨HSz9_0, HSLz9_0⟩, ⟨HSz9_1, HSLz9_1⟩⟩ := HI0.out
  have hcz9_0 := cellS87_0 HGz9
  have hcz9_1 := cellS87_1 HGz9
  have hcz9_2 := cellS87_2 HGz9
  have hfz9_2 := blk_frozen HGz9 2
  clear HGz9 hgz9
  have p101 : 0 ≤ (a2 : Int) := of_decide_eq_true (by first | (with_reducible assumption) | assumption)
  have q101 : a2 < (s0_1.length : Int) := of_decide_eq_true (by first | (with_reducible assumption) | assumption)
  obtain ⟨ad101, e101, hx101_0⟩ := Kd.at_int HSz9_1 a2 p101 q101
  cases e101
  replace hx101_0 := pw_cell_below HB.out hx101_0
  replace p101 := eq_true p101
  replace q101 := eq_true q101
  have p102 : 0 ≤ (a2 : Int) := of_decide_eq_true (by first | (with_reducible assumption) | assumption)
  have q102 : a2 < (s0_0.length : Int) := of_decide_eq_true (by first | (with_reducible assumption) | assumption)
  obtain ⟨ad102, e102, hx102_0⟩ := Kd.at_int HSz9_0 a2 p102 q102
  cases e102
  replace hx102_0 := pw_cell_below HB.out hx102_0
  replace p102 := eq_true p102
  replace q102 := eq_true q102
  go_enter Try.func83, Try.ntmps83
  go_wp2
  repeat (go_quiet (fail); try go_wp2)
  go_ret
  exact ⟨by first | rfl | (simp [errW_none, errW_some] <;> rfl) | (simp [*, errW_none, errW_some] <;> rfl), by repeat (first | (with_reducible first | exact HI0.out | apply IsS87.alloc | apply IsS87.drewN | apply IsS87.drew | apply IsS87.set_2) | exact HI0.out), by repeat (first | (with_reducible first | exact HB.out | apply below_alloc | apply pw_below_drewN | apply below_drew1 | refine below_set ?_ (IsS87.ge HI0.out)) | exact HB.out), by repeat (first | (with_reducible first | exact HK.out | apply KeepBut.set_ | apply keep_drewN | apply keep_drew | apply keep_alloc) | exact HK.out)⟩
end Go.Proofs.Ythbpibdfookbmaa.G
