/- The row of TopIsolate: dropper/droppertop.TopIsolate returns true for every input, and each argument reads behind the call as it read before, where the two tables of math/bits hold what the program's text lays; and the card, which ties the tables to the program's text. -/
import Derived.Test.YtbbjonbnmoomlaaDoorRows
import Derived.Test.YtbbjonbnmoomlaaDoorCards
import Derived.Test.YtbbjonbnmoomlaaDoorTie
import Derived.Test.YtbbjonbnmoomlaaDoorZI17
import Derived.Test.YtbbjonbnmoomlaaDoorZI21
import Derived.WalkKit
import Derived.ProofKit
import Derived.OpenShut
import Derived.ShutString
import Derived.ChangeOld
import Derived.Below
import Derived.SizedLaws
import Derived.LaidMore
import Derived.Stop.Joined
import Derived.SevenTiedAt
import Derived.Test.YtbbjonbnmoomlaaDoorV0
namespace Go.Proofs.YtbbjonbnmoomlaaDoor.topIsolate
open Go.ChangeShapes Go.WideShapes Go.ChangeAt Go.RowKit Go.Proofs.YtbbjonbnmoomlaaDoor.G
open Go.Proofs.YtbbjonbnmoomlaaDoorW.PrintWords
open Go.Proofs.YtbbjonbnmoomlaaDoor.Open
set_option linter.unusedVariables false
theorem own : ownKnob Tryd.prog.godebug = none := by kernel_rfl
theorem laidOut : laidOutB Tryd.prog = true := by kernel_rfl
/-- The door's own heap meets the condition: three closed facts. -/
theorem door_met (os : Os) (args : Array Value) : laidMetH Tryd.prog Rows.topIsolateRow.laid ((World.doorLaid Tryd.prog 400 os).forCall (fun _ _ => 0) ⟨#[], args, []⟩).memory :=
  laidMetH_of_parts3 (fuel := 8) (laidMet_of_run' 8 (by kernel_rfl) (by kernel_rfl)) (by kernel_rfl) (by kernel_rfl)
set_option maxRecDepth 100000 in
theorem lifted (os : Os) (started : os.Started) (H : Type) (enc : TypeId × Value → H) :
    ReturnsInHanded {} Tryd.checked os 3 .any (fun w args => (Rows.topIsolateSpec.pre enc Tryd.prog Tryd.f3 [] false w args ∧ laidMetH Tryd.prog Rows.topIsolateRow.laid w) ∧ sizedMet enc Tryd.prog Tryd.f3 (OpenSpec.ofChange Rows.topIsolateSpec) false w args)
      (Rows.topIsolateSpec.post enc Tryd.prog Tryd.f3 false true false false) := by
  refine returnsInHanded_of_change_and (C := Tryd.checked) (X := fun w _ => laidMetH Tryd.prog Rows.topIsolateRow.laid w) (fun _ _ _ hh h => h.of_heap hh) own started (by kernel_rfl) Tryd.func3
    (ChangeSpec.witness_shaped (enc := enc) (C := Tryd.checked) (os := os) (X := fun w _ => laidMetH Tryd.prog Rows.topIsolateRow.laid w) false (World.doorLaid Tryd.prog 400 os) #[.agg #[.int .i64 0, .slice none 0 0, .slice none 0 0], .agg #[.int .i64 0, .int .i64 0], .agg #[.slice none 0 0, .slice none 0 0]] 8 rfl (World.shaped_of_RefB (by kernel_rfl) (by kernel_rfl)) (by kernel_rfl) (by kernel_rfl) (by kernel_rfl) (door_met os _)) ?_
  intro W base args ds gs before hval0 hW _ _ hL _
  have hval : ∀ (j : Nat) t v, Tryd.f3.params[j]? = some t → args[j]? = some v → Value.okWide Tryd.prog W .any base t v := hval0
  have hW' := hW
  obtain ⟨p, q, hA0, hV, rfl, hfz, hnd⟩ := hW
  have hA : DataW.TrodAll enc Tryd.prog W 0 (fun _ => true) true Tryd.f3.params.toList args.toList ds p := hA0
  rw [Tryd.params3] at hA hval
  obtain ⟨v0, vs0, d0, ds0, p0, q0, hargs, rfl, rfl, h0, r0⟩ := trodAll_cons hA
  obtain ⟨v1, vs1, d1, ds1, p1, q1, rfl, rfl, rfl, h1, r1⟩ := trodAll_cons r0
  obtain ⟨v2, vs2, d2, ds2, p2, q2, rfl, rfl, rfl, h2, r2⟩ := trodAll_cons r1
  obtain ⟨rfl, rfl, rfl⟩ := trodAll_nil r2
  obtain rfl : args = #[v0, v1, v2] := by cases args; simp_all
  obtain ⟨rfl, rfl⟩ := trodVars_none hV
  have k0 := h0
  have lt0 : ∀ x ∈ p0, x.block < W.heap.size := by obtain ⟨m, hm⟩ := k0; exact DataW.trod_lt m _ _ _ hm
  have k1 := h1
  have lt1 : ∀ x ∈ p1, x.block < W.heap.size := by obtain ⟨m, hm⟩ := k1; exact DataW.trod_lt m _ _ _ hm
  have k2 := h2
  have lt2 : ∀ x ∈ p2, x.block < W.heap.size := by obtain ⟨m, hm⟩ := k2; exact DataW.trod_lt m _ _ _ hm
  obtain ⟨a0_0, A0_1, c0_1, l0_1, A0_2, c0_2, l0_2, rfl, hr0_1, hc0_1, hr0_2, hc0_2⟩ := open_grid (hval 0 25 v0 rfl rfl) k0
  obtain ⟨a1_0, a1_1, rfl, _, _⟩ := open_s2_ints (k := .i64) Tryd.underlying27 (by kernel_rfl) (by kernel_rfl) Tryd.underlying3 Tryd.underlying3 (hval 1 27 v1 rfl rfl) k1
  obtain ⟨A2_0, c2_0, l2_0, A2_1, c2_1, l2_1, rfl, hr2_0, hc2_0, hr2_1, hc2_1⟩ := open_lists (hval 2 31 v2 rfl rfl) k2
  have hZ : TzT W := of_laid hL
  clear hA0 hval0
  obtain ⟨k, hk⟩ := TopIsolate_pure a0_0 l0_1 l0_2 a1_0 a1_1 l2_0 l2_1
  refine (droppertop_TopIsolate.calls k a0_0 A0_1 c0_1 l0_1 A0_2 c0_2 l0_2 a1_0 a1_1 A2_0 c2_0 l2_0 A2_1 c2_1 l2_1 true W hr0_1 hc0_1 hr0_2 hc0_2 hr2_0 hc2_0 hr2_1 hc2_1 hk rfl hZ).mono fun e W' ⟨he, bel⟩ => ?_
  subst he
  exact ⟨_, rfl, _, _, _, [], _, [], hW', trodAll_mk1 (shut_bool Tryd.underlying4 _), (trodAll_cons_mk (Below.trod laidOut (by kernel_rfl) (of_decide_eq_true (by kernel_rfl)) k0 bel lt0) (trodAll_cons_mk (Below.trod laidOut (by kernel_rfl) (of_decide_eq_true (by kernel_rfl)) k1 bel lt1) (trodAll_cons_mk (Below.trod laidOut (by kernel_rfl) (of_decide_eq_true (by kernel_rfl)) k2 bel lt2) trodAll_mk0))), rfl, bel.frame _, fun h => by cases h⟩
theorem over : Rows.topIsolateRow.holds Tryd.pinned (OpenSpec.ofChange Rows.topIsolateSpec) :=
  OpenClaim.holds_of_wide 3 Tryd.f3 rfl rfl rfl rfl rfl rfl rfl ⟨rfl, rfl, rfl, rfl, rfl⟩ rfl rfl rfl rfl rfl (by kernel_rfl) Tryd.func3 (by kernel_rfl)
    (of_decide_eq_true (by kernel_rfl)) (by unfold Func.isWrapper; first | (rw [if_pos (by decide +kernel)]; kernel_rfl) | (rw [if_neg (by decide +kernel)]; exact ⟨rfl, rfl⟩))
    (fun os started H enc _ => lifted os started H enc)
end Go.Proofs.YtbbjonbnmoomlaaDoor.topIsolate
namespace Go.Proofs.YtbbjonbnmoomlaaDoor
theorem topIsolate_row_holds : Rows.TopIsolateSaid := topIsolate.over
/-- The card: the row, and its two listed tables tied to the program's text. -/
theorem topIsolate_holds : Rows.TopIsolateCardSaid :=
  Claim7.holds_tied_plain_at .later [] [.data, .data] true (true, "00ff922f763bf3965d1b1c47975fa1dc7a4eae7c59081fd692dcd7b5c82bed86") false
    topIsolate_row_holds (fun _ h => by cases h) (by kernel_rfl) (fun _ h => by cases h) topIsolate_row_tie rfl ⟨rfl, rfl⟩ (by kernel_rfl) rfl
    (fun f fn hf hfn => by
      obtain rfl : f = 3 := Option.some.inj ((show Tryd.prog.funcNamed "dropper/droppertop.TopIsolate" = some 3 by kernel_rfl).symm.trans hf) |>.symm
      obtain rfl : fn = Tryd.f3 := (Option.some.inj (Tryd.func3.symm.trans hfn)).symm
      exact ⟨by kernel_rfl, fun j t ht => by
        rw [Tryd.params3] at ht
        have hm : t ∈ [25, 27, 31] := by simpa using Array.mem_of_getElem? ht
        have hall : ([25, 27, 31].all fun u => !Tryd.prog.wantsStandIn u) = true := by kernel_rfl
        exact (show Tryd.prog.wantsStandIn t = false by simpa using List.all_eq_true.1 hall t hm)⟩)
    (by kernel_rfl)
#print axioms topIsolate_holds
end Go.Proofs.YtbbjonbnmoomlaaDoor
