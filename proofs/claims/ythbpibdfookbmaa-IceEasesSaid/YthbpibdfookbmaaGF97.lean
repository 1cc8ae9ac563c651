-- Written by this session's driver (wip/tools/printmore.py) over the kit's print, with hand-written parts.
import Derived.Test.YthbpibdfookbmaaGBase
namespace Go.Proofs.Ythbpibdfookbmaa.G
open Go.RowKit Go.Proofs.YthbpibdfookbmaaW.PrintWords Go.Proofs.YthbpibdfookbmaaW.PrintLast Go.Proofs.YthbpibdfookbmaaW.PrintMore
attribute [local go_sem] max2_int min2_int max_two min_two max_three min_three max_four min_four   -- for this text's walks alone
set_option linter.unusedVariables false
set_option linter.unusedSimpArgs false

/-! ### slices_symMergeCmpFunc_int: function 97 -/
/- Never reached with at most 20 elements: told as a panic ('none'), so its contract asks nothing. -/
def slices_symMergeCmpFunc_int.f (_k : Nat) (_l0 : List Int) (_a1 : Int) (_a2 : Int) (_a3 : Int) (_a4 : (Int → Int → Option (Int))) : Option (List Int) := none
theorem slices_symMergeCmpFunc_int.mono : ∀ a0 a1 a2 a3 a4 k, LeO (slices_symMergeCmpFunc_int.f k a0 a1 a2 a3 a4) (slices_symMergeCmpFunc_int.f (k + 1) a0 a1 a2 a3 a4) := fun _ _ _ _ _ _ => LeO.none _
theorem slices_symMergeCmpFunc_int.calls (k : Nat) : ∀ (P0_ : Nat → Prop) (u9000_ : Value) (l0 : List Int) (a1 : Int) (a2 : Int) (a3 : Int) {g4 : FuncId} {lb4 : Array Value} (hen4 : EntersF Try.prog g4) (a4 : (Int → Int → Option (Int))) (r : List Int) (w0 w : World) (hB : Below w0.heap.size w0 w) (ho0 : Kd.R (Kd.int .i64) 3 w w0.heap.size P0_ u9000_ l0) (hfn4 : ∀ (z0_ : Int) (z1_ : Int) (q0_ : Int) (W_ : World), Below w0.heap.size w0 W_ → a4 z0_ z1_ = some q0_ → Calls Try.prog g4 (#[.int .i64 z0_, .int .i64 z1_] ++ lb4) W_ fun e w' => e = .returned (.int .i64 q0_) ∧ Below W_.heap.size W_ w') (h : slices_symMergeCmpFunc_int.f k l0 a1 a2 a3 a4 = some r),
    Calls Try.prog 97 #[u9000_, .int .i64 a1, .int .i64 a2, .int .i64 a3, .func (.func g4) #[] lb4] w fun e w' => e = .returned (.tuple #[]) ∧ Kd.R (Kd.int .i64) 3 w' w0.heap.size (fun k_ => (P0_ k_ ∨ w.heap.size ≤ k_)) u9000_ r ∧ Below w0.heap.size w0 w' ∧ Kept w w' (fun k_ => P0_ k_) := by
  intros
  rename_i h
  cases h

end Go.Proofs.Ythbpibdfookbmaa.G
