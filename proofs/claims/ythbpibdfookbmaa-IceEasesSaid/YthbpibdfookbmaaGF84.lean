-- Written by this session's driver (wip/tools/printmore.py) over the kit's print, with hand-written parts.
import Derived.Test.YthbpibdfookbmaaGBase
import Derived.Test.YthbpibdfookbmaaGF50
namespace Go.Proofs.Ythbpibdfookbmaa.G
open Go.RowKit Go.Proofs.YthbpibdfookbmaaW.PrintWords Go.Proofs.YthbpibdfookbmaaW.PrintLast Go.Proofs.YthbpibdfookbmaaW.PrintMore
attribute [local go_sem] max2_int min2_int max_two min_two max_three min_three max_four min_four   -- for this text's walks alone
set_option linter.unusedVariables false
set_option linter.unusedSimpArgs false

/-! ### ice_isRota_1: function 84 -/
def ice_isRota_1.f (a0 : Int) (l1_0 : List Int) : Option (Bool) := (ice_within.f (-1) a0 (wrap64 ((l1_0.length : Int) - 1))).bind fun t101 => (some (!t101))
set_option maxHeartbeats 8000000 in
set_option maxRecDepth 100000 in
theorem ice_isRota_1.calls (a0 : Int) (b1 : Nat) (A1_0 : Option Addr) (c1_0 : Nat) (l1_0 : List Int) (r : Bool) (w : World) (hbk1 : w.heap[b1]? = some (.cells #[.slice A1_0 l1_0.length c1_0] 22 (0, 0))) (hr1_0 : Kd.C (Kd.int .i64) w A1_0 l1_0.length l1_0) (hc1_0 : l1_0.length ≤ c1_0) (h : ice_isRota_1.f a0 l1_0 = some r) :
    Calls Try.prog 84 #[.int .i64 a0, .pointer (some ⟨b1, 0, none⟩)] w fun e w' => e = .returned (.bool r) ∧ Drawn0 w w' := by
  have HR1_0 := Aside0.mk hr1_0
  have HC1_0 := Aside0.mk hc1_0
  clear hr1_0 hc1_0
  have BK1 := Aside0.mk hbk1
  clear hbk1
  have H : ((ice_within.f (-1) a0 (wrap64 ((l1_0.length : Int) - 1))).bind fun t101 => (some (!t101))) = some r := h
  clear h
  replace H := Option.bind_eq_some_iff.mp H
  obtain ⟨t101, A30, H⟩ := H
  replace H : (some (!t101)) = some r := H
  have A3 := Aside0.mk A30
  clear A30
  obtain rfl := Option.some.inj H
  have hcz4_0 : w.cell? ⟨b1, 0, none⟩ = some (.slice A1_0 l1_0.length c1_0) := (blk_cell BK1.out 0).trans rfl
  have hfz4_0 := blk_frozen BK1.out 0
  go_enter Try.func84, Try.ntmps84
  go_wp2_with (first | ((with_reducible refine gate_callee (f := 50) rfl ?_); refine goesL_ (some 8) rfl rfl Try.func50 (by kernel_rfl) rfl #[.int .i64 (-1), .int .i64 a0, .int .i64 (wrap64 ((l1_0.length : Int) - 1))] rfl (by (try simp only [List.map_toArray, List.map_cons, List.map_nil]); first | done | rfl | (simp only [List.length_drop, List.length_take]; rfl)) ?_; (with_reducible refine (ice_within.calls (-1) a0 (wrap64 ((l1_0.length : Int) - 1)) t101 _ A3.out).mono ?_); rintro e w' ⟨rfl, ⟨nd, rfl⟩⟩; refine ⟨_, rfl, ?_⟩))
  go_ret
  exact ⟨by first | rfl | (simp; done) | (simp [*]; done), by repeat (first | exact Drawn0.refl _ | apply Drawn0.step)⟩

end Go.Proofs.Ythbpibdfookbmaa.G
