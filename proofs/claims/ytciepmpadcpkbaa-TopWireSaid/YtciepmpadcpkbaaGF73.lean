-- Written by this session's driver (wip/tools/printmore.py) over the kit's print, with hand-written parts.
import Derived.Test.YtciepmpadcpkbaaGBase
import Derived.Test.YtciepmpadcpkbaaGF76
import Derived.Test.YtciepmpadcpkbaaGF77
namespace Go.Proofs.Ytciepmpadcpkbaa.G
open Go.RowKit Go.Proofs.YtciepmpadcpkbaaW.PrintWords Go.Proofs.YtciepmpadcpkbaaW.PrintLast Go.Proofs.YtciepmpadcpkbaaW.PrintMore
attribute [local go_sem] max2_int min2_int max_two min_two max_three min_three max_four min_four   -- for this text's walks alone
set_option linter.unusedVariables false
set_option linter.unusedSimpArgs false

/-! ### wire_are: function 73 -/
def wire_are.f (k : Nat) (l0 : List Int) : Option (Bool) := (slices_ContainsFunc_int_int.f k l0 wire_are_1.f).bind fun t101 => (some (!t101))
theorem wire_are.mono : ∀ a0 k, LeO (wire_are.f k a0) (wire_are.f (k + 1) a0) := by
 intro a0 k
 unfold wire_are.f
 repeat' first
   | (with_reducible exact slices_ContainsFunc_int_int.mono _ _ _)
   | (with_reducible exact LeO.refl _)
   | (with_reducible exact LeO.none _)
   | (with_reducible refine LeO.ite ?_ ?_)
   | (with_reducible refine LeO.bind ?_ (fun _ => ?_))
   | exact slices_ContainsFunc_int_int.mono _ _ _
   | exact LeO.none _
   | refine LeO.ite ?_ ?_
   | refine LeO.bind ?_ (fun _ => ?_)
set_option maxHeartbeats 8000000 in
set_option maxRecDepth 100000 in
theorem wire_are.calls (k : Nat) (A0 : Option Addr) (c0 : Nat) (l0 : List Int) (r : Bool) (w : World) (hr0 : Kd.C (Kd.int .i64) w A0 l0.length l0) (hc0 : l0.length ≤ c0) (h : wire_are.f k l0 = some r) :
  Calls Try.prog 73 #[.slice A0 l0.length c0] w fun e w' => e = .returned (.bool r) ∧ Below w.heap.size w w' := by
 have HR0 := A_ hr0
 have HC0 := A_ hc0
 clear hr0 hc0
 have HB := A_ (Below.refl w.heap.size w)
 have H : ((slices_ContainsFunc_int_int.f k l0 wire_are_1.f).bind fun t101 => (some (!t101))) = some r := h
 clear h
 replace H := Option.bind_eq_some_iff.mp H
 obtain ⟨t101, A20, H⟩ := H
 replace H : (some (!t101)) = some r := H
 have A2 := A_ A20
 clear A20
 obtain rfl := Option.some.inj H
 go_enter Try.func73, Try.ntmps73
 go_wp2_with (first | ((with_reducible refine gate_callee (f := 76) rfl ?_); refine goesL_ (some 4) rfl rfl Try.func76 (by kernel_rfl) rfl #[.slice A0 l0.length c0, .func (.func 77) #[] #[]] rfl (by (try simp only [List.map_toArray, List.map_cons, List.map_nil]); first | done | rfl | (simp only [List.length_drop, List.length_take]; rfl)) ?_; (with_reducible refine (slices_ContainsFunc_int_int.calls k _ _ l0 (enters_f Try.func77 (by kernel_rfl) rfl) wire_are_1.f t101 _ ?side1 ?side2 ?side3 A2.out).mono ?_); (case side1 => exact cU HR0.out); (case side2 => exact HC0.out); (case side3 => intro z0_ q0_ W_ hW_ hq_; have hc_ := wire_are_1.calls z0_ q0_ W_  hq_; exact hc_.mono (fun e_ w_ h_ => ⟨h_.1, (by obtain ⟨_, nd_, rfl⟩ := h_; exact pw_below_drewN (Below.refl _ _) _)⟩)); rintro e w3 ⟨rfl, hb⟩; refine ⟨_, rfl, ?_⟩; have n0_ := A_ (below_step (bW0 HB.out) hb); clear HB; have HB := n0_; clear n0_; (try clear hb); (try clear hb2); (try clear hk); (try clear hi)))
 go_ret
 exact ⟨by first | rfl | (simp [errW_none, errW_some] <;> rfl) | (simp [*, errW_none, errW_some] <;> rfl), by repeat (first | (with_reducible first | exact HB.out | apply below_alloc | apply pw_below_drewN | apply below_drew1) | exact HB.out)⟩

end Go.Proofs.Ytciepmpadcpkbaa.G
