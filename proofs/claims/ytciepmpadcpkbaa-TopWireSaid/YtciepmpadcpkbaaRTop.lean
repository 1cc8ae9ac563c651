/- The row of TopWire: dropper/droppertop.TopWire returns true for every input, and each argument reads behind the call as it read before. No condition. -/
import Derived.Test.YtciepmpadcpkbaaRows
import Derived.Test.YtciepmpadcpkbaaGF4
import Derived.Test.YtciepmpadcpkbaaSTop
import Derived.WalkKit
import Derived.ProofKit
import Derived.OpenShut
import Derived.ShutString
import Derived.ChangeOld
import Derived.Below
import Derived.SizedLaws
import Derived.Test.YtciepmpadcpkbaaV0
import Derived.Test.YtciepmpadcpkbaaOpen
namespace Go.Proofs.Ytciepmpadcpkbaa.topWire
open Go.ChangeShapes Go.WideShapes Go.ChangeAt Go.RowKit Go.Proofs.Ytciepmpadcpkbaa.G
open Go.Proofs.YtciepmpadcpkbaaW.PrintWords
open Go.Proofs.Ytciepmpadcpkbaa.Open
set_option linter.unusedVariables false
theorem own : ownKnob Try.prog.godebug = none := by kernel_rfl
theorem laidOut : laidOutB Try.prog = true := by kernel_rfl
set_option maxRecDepth 100000 in
theorem lifted (os : Os) (started : os.Started) (H : Type) (enc : TypeId × Value → H) :
    ReturnsInHanded {} Try.checked os 4 .any (Rows.topWireSpec.pre6 enc Try.prog Try.f4 Rows.topWireRow.domain false) (Rows.topWireSpec.post enc Try.prog Try.f4 false true false false) := by
  refine returnsInHanded_of_change_sized (C := Try.checked) own started (by kernel_rfl) Try.func4
    (ChangeSpec.witness6 (enc := enc) (C := Try.checked) false ⟨#[], #[.slice none 0 0, .agg #[.int .i64 0, .int .i64 0], .agg #[.slice none 0 0, .slice none 0 0, .int .i64 0, .int .i64 0]], []⟩ 8 (by kernel_rfl) (by kernel_rfl) (by kernel_rfl) (by kernel_rfl)) ?_
  intro W base args ds gs before hval0 hW hcnd hsz0 _
  have hsz : (DataW.weightsEach Try.prog (Try.f4.params.toList ++ Rows.topWireSpec.plain.varTypes Try.prog) (ds ++ gs)).all (· ≤ reachBytes) = true := hsz0
  have hval : ∀ (j : Nat) t v, Try.f4.params[j]? = some t → args[j]? = some v → Value.okWide Try.prog W .any base t v := hval0
  have hW' := hW
  obtain ⟨p, q, hA0, hV, rfl, hfz, hnd⟩ := hW
  have hA : DataW.TrodAll enc Try.prog W 0 (fun _ => true) true Try.f4.params.toList args.toList ds p := hA0
  rw [Try.params4] at hA hval hsz
  obtain ⟨v0, vs0, d0, ds0, p0, q0, hargs, rfl, rfl, h0, r0⟩ := trodAll_cons hA
  obtain ⟨v1, vs1, d1, ds1, p1, q1, rfl, rfl, rfl, h1, r1⟩ := trodAll_cons r0
  obtain ⟨v2, vs2, d2, ds2, p2, q2, rfl, rfl, rfl, h2, r2⟩ := trodAll_cons r1
  obtain ⟨rfl, rfl, rfl⟩ := trodAll_nil r2
  obtain rfl : args = #[v0, v1, v2] := by cases args; simp_all
  obtain ⟨rfl, rfl⟩ := trodVars_none hV
  have k0 := h0
  have lt0 : ∀ x ∈ p0, x.block < W.heap.size := by obtain ⟨m, hm⟩ := k0; exact DataW.trod_lt m _ _ _ hm
  obtain ⟨A0, len0, c0, rfl⟩ := okWide_slice Try.underlying22 (hval 0 22 v0 rfl rfl)
  obtain ⟨l0, hl0, hr0, hc0, hx0⟩ := open_72_C Try.underlying22 k0
  subst hl0
  have k1 := h1
  have lt1 : ∀ x ∈ p1, x.block < W.heap.size := by obtain ⟨m, hm⟩ := k1; exact DataW.trod_lt m _ _ _ hm
  obtain ⟨a1_0, a1_1, rfl, w1_0, w1_1⟩ := open_s2_ints (k := .i64) Try.underlying24 (by kernel_rfl) (by kernel_rfl) Try.underlying3 Try.underlying3 (hval 1 24 v1 rfl rfl) h1
  have k2 := h2
  have lt2 : ∀ x ∈ p2, x.block < W.heap.size := by obtain ⟨m, hm⟩ := k2; exact DataW.trod_lt m _ _ _ hm
  obtain ⟨cs2, rfl, hsz2_⟩ := WideShapes.okWide_struct Try.underlying36 (hval 2 36 v2 rfl rfl)
  obtain ⟨y2_0, y2_1, y2_2, y2_3, rfl⟩ := Go.Joins.array4 (hsz2_.trans (by kernel_rfl))
  obtain ⟨fuel2, hf2⟩ := h2
  obtain ⟨A2_0, len2_0, c2_0, e2_0, l2_0, hl2_0, hr2_0, hc2_0, hx2_0⟩ := struct_slice (k := .i64) Try.underlying36 (by kernel_rfl) hf2 0 _ rfl Try.underlying34 Try.underlying3 (by kernel_rfl)
  obtain ⟨A2_1, len2_1, c2_1, e2_1, l2_1, hl2_1, hr2_1, hc2_1, hx2_1⟩ := struct_slice (k := .i64) Try.underlying36 (by kernel_rfl) hf2 1 _ rfl Try.underlying34 Try.underlying3 (by kernel_rfl)
  obtain ⟨a2_2, e2_2, w2_2⟩ := struct_cell (k := .i64) Try.underlying36 (by kernel_rfl) hf2 2 _ rfl Try.underlying3
  obtain ⟨a2_3, e2_3, w2_3⟩ := struct_cell (k := .i64) Try.underlying36 (by kernel_rfl) hf2 3 _ rfl Try.underlying3
  simp [Value.cells] at e2_0
  subst e2_0
  subst hl2_0
  simp [Value.cells] at e2_1
  subst e2_1
  subst hl2_1
  simp [Value.cells] at e2_2
  subst e2_2
  simp [Value.cells] at e2_3
  subst e2_3
  clear hA0 hval0 hsz0 hsz
  obtain ⟨k, hk⟩ := TopWire_pure l0 a1_0 a1_1 l2_0 l2_1 a2_2 a2_3 hx0 w1_0 w1_1 hx2_0 hx2_1 w2_2 w2_3 hr0.2.1 hr2_0.2.1 hr2_1.2.1
  refine (droppertop_TopWire.calls k A0 c0 l0 a1_0 a1_1 (fun k_ => k_ < W.heap.size) A2_0 c2_0 l2_0 (fun k_ => k_ < W.heap.size) A2_1 c2_1 l2_1 a2_2 a2_3 true W hr0 hc0 ⟨_, _, rfl, hc2_0, fun _ hW_ => Kd.Heap.C (d := Kd.int .i64) ⟨fun _ h_ => h_⟩ (fun k_ hlt_ => hW_ k_ hlt_ hlt_) hr2_0⟩ ⟨_, _, rfl, hc2_1, fun _ hW_ => Kd.Heap.C (d := Kd.int .i64) ⟨fun _ h_ => h_⟩ (fun k_ hlt_ => hW_ k_ hlt_ hlt_) hr2_1⟩ hk rfl).mono fun e W' ⟨he, bel⟩ => ?_
  subst he
  exact ⟨_, rfl, _, _, _, [], _, [], hW', trodAll_mk1 (shut_bool Try.underlying4 _), (trodAll_cons_mk (Below.trod laidOut (by kernel_rfl) (of_decide_eq_true (by kernel_rfl)) k0 bel lt0) (trodAll_cons_mk (Below.trod laidOut (by kernel_rfl) (of_decide_eq_true (by kernel_rfl)) k1 bel lt1) (trodAll_cons_mk (Below.trod laidOut (by kernel_rfl) (of_decide_eq_true (by kernel_rfl)) k2 bel lt2) trodAll_mk0))), rfl, bel.frame _, fun h => by cases h⟩
theorem over : Rows.topWireRow.holds Try.pinned (OpenSpec.ofChange Rows.topWireSpec) :=
  OpenClaim.holds_of_wide 4 Try.f4 rfl rfl rfl rfl rfl rfl rfl ⟨rfl, rfl, rfl, rfl, rfl⟩ rfl rfl rfl rfl rfl (by kernel_rfl) Try.func4 (by kernel_rfl)
    (of_decide_eq_true (by kernel_rfl)) (by unfold Func.isWrapper; first | (rw [if_pos (by decide +kernel)]; kernel_rfl) | (rw [if_neg (by decide +kernel)]; exact ⟨rfl, rfl⟩))
    (fun os started H enc _ => lifted os started H enc)
end Go.Proofs.Ytciepmpadcpkbaa.topWire
namespace Go.Proofs.Ytciepmpadcpkbaa
theorem topWire_holds : Rows.TopWireSaid := topWire.over
#print axioms topWire_holds
end Go.Proofs.Ytciepmpadcpkbaa
