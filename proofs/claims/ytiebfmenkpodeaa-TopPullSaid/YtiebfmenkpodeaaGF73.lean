-- Written by this session's driver (wip/tools/printmore.py) over the kit's print, with hand-written parts.
import Derived.Test.YtiebfmenkpodeaaGBase
namespace Go.Proofs.Ytiebfmenkpodeaa.G
open Go.RowKit Go.Proofs.YtiebfmenkpodeaaW.PrintWords Go.Proofs.YtiebfmenkpodeaaW.PrintLast Go.Proofs.YtiebfmenkpodeaaW.PrintMore
attribute [local go_sem] max2_int min2_int max_two min_two max_three min_three max_four min_four   -- for this text's walks alone
set_option linter.unusedVariables false
set_option linter.unusedSimpArgs false

/-! ### pull_Must_1: function 73 -/
def pull_Must_1.f (a0 : Int) (a1_0 : Int) : Option (Bool) := some (a0 == a1_0)
set_option maxHeartbeats 8000000 in
set_option maxRecDepth 100000 in
theorem pull_Must_1.calls (a0 : Int) (b1 : Nat) (a1_0 : Int) (r : Bool) (w : World) (hbk1 : w.heap[b1]? = some (.cells #[.int .i64 a1_0] 3 (0, 0))) (h : pull_Must_1.f a0 a1_0 = some r) :
    Calls Try.prog 73 #[.int .i64 a0, .pointer (some ⟨b1, 0, none⟩)] w fun e w' => e = .returned (.bool r) ∧ Drawn0 w w' := by
  have BK1 := Aside0.mk hbk1
  clear hbk1
  have H : (some (a0 == a1_0)) = some r := h
  clear h
  obtain rfl := Option.some.inj H
  have hcz3_0 : w.cell? ⟨b1, 0, none⟩ = some (.int .i64 a1_0) := (blk_cell BK1.out 0).trans rfl
  have hfz3_0 := blk_frozen BK1.out 0
  go_enter Try.func73, Try.ntmps73
  go_wp2
  go_ret
  exact ⟨by first | rfl | (simp; done) | (simp [*]; done), by repeat (first | exact Drawn0.refl _ | apply Drawn0.step)⟩

end Go.Proofs.Ytiebfmenkpodeaa.G
