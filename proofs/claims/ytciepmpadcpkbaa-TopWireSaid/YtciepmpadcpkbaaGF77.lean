-- Written by this session's driver (wip/tools/printmore.py) over the kit's print, with hand-written parts.
import Derived.Test.YtciepmpadcpkbaaGBase
import Derived.Test.YtciepmpadcpkbaaGF78
namespace Go.Proofs.Ytciepmpadcpkbaa.G
open Go.RowKit Go.Proofs.YtciepmpadcpkbaaW.PrintWords Go.Proofs.YtciepmpadcpkbaaW.PrintLast Go.Proofs.YtciepmpadcpkbaaW.PrintMore
attribute [local go_sem] max2_int min2_int max_two min_two max_three min_three max_four min_four   -- for this text's walks alone
set_option linter.unusedVariables false
set_option linter.unusedSimpArgs false

/-! ### wire_are_1: function 77 -/
def wire_are_1.f (a0 : Int) : Option (Bool) := (wire_isHeight.f a0).bind fun t101 => (some (!t101))
set_option maxHeartbeats 8000000 in
set_option maxRecDepth 100000 in
theorem wire_are_1.calls (a0 : Int) (r : Bool) (w : World) (h : wire_are_1.f a0 = some r) :
  Calls Try.prog 77 #[.int .i64 a0] w fun e w' => e = .returned (.bool r) ∧ Drawn0 w w' := by
 have H : ((wire_isHeight.f a0).bind fun t101 => (some (!t101))) = some r := h
 clear h
 replace H := Option.bind_eq_some_iff.mp H
 obtain ⟨t101, A20, H⟩ := H
 replace H : (some (!t101)) = some r := H
 have A2 := A_ A20
 clear A20
 obtain rfl := Option.some.inj H
 go_enter Try.func77, Try.ntmps77
 go_wp2_with (first | ((with_reducible refine gate_callee (f := 78) rfl ?_); refine goesL_ (some 4) rfl rfl Try.func78 (by kernel_rfl) rfl #[.int .i64 a0] rfl (by (try simp only [List.map_toArray, List.map_cons, List.map_nil]); first | done | rfl | (simp only [List.length_drop, List.length_take]; rfl)) ?_; (with_reducible refine (wire_isHeight.calls a0 t101 _ A2.out).mono ?_); rintro e w' ⟨rfl, ⟨nd, rfl⟩⟩; refine ⟨_, rfl, ?_⟩))
 go_ret
 exact ⟨by first | rfl | (simp; done) | (simp [*]; done), by repeat (first | exact Drawn0.refl _ | apply Drawn0.step)⟩

end Go.Proofs.Ytciepmpadcpkbaa.G
