/- The law WireClashes of the printed functions. Plain Lean. -/
import Derived.Test.YtciepmpadcpkbaaPLaw
import Derived.Test.YtciepmpadcpkbaaPClash
import Derived.Test.YtciepmpadcpkbaaGF3
namespace Go.Proofs.Ytciepmpadcpkbaa.G
set_option linter.unusedVariables false
open Go.RowKit Go.Proofs.YtciepmpadcpkbaaW.PrintWords Go.Proofs.YtciepmpadcpkbaaW.PrintLast
theorem WireClashes_pure (l : List S72) (r n i k : Int) (hx : ∀ x ∈ l, (Lit.int .i64 x.f0).wf = true ∧ (Lit.int .i64 x.f1).wf = true ∧ (Lit.int .i64 x.f2).wf = true) (wr : (Lit.int .i64 r).wf = true) (wn_ : (Lit.int .i64 n).wf = true) (wi : (Lit.int .i64 i).wf = true) (wk : (Lit.int .i64 k).wf = true) : ∃ k_, dropperlaw02_WireClashes.f k_ l r n i k = some true := by
  obtain ⟨K0, s0⟩ := large0_ev l
  obtain ⟨K1, s1⟩ := awake_ev
  by_cases c0 : (l.length : Int) > 50
  · refine ⟨K0 + K1, ?_⟩
    have a0 := s0 (K0 + K1) (by omega)
    have a1 := s1 (K0 + K1) (by omega)
    dsimp only at a0 a1
    unfold dropperlaw02_WireClashes.f
    rw [a0, decide_eq_true c0]
    simp [a1]
  · have hl : l.length ≤ 9223372036854775807 := by omega
    obtain ⟨K2, s2⟩ := wire_Clash_ev l hl r n
    obtain ⟨K3, s3⟩ := ref_Clash_ev l hl r n
    obtain ⟨K4, s4⟩ := wire_Clashes_ev l hl r n i k
    obtain ⟨K5, s5⟩ := ref_Clashes_ev l hl r n i k
    generalize hk : K0 + K1 + K2 + K3 + K4 + K5 = K
    have a0 := s0 K (by omega)
    have a1 := s1 K (by omega)
    have a2 := s2 K (by omega)
    have a3 := s3 K (by omega)
    have a4 := s4 K (by omega)
    have a5 := s5 K (by omega)
    dsimp only at a0 a1 a2 a3 a4 a5
    refine ⟨K, ?_⟩
    unfold dropperlaw02_WireClashes.f
    rw [a0, decide_eq_false c0]
    generalize clashR l r n = x at *
    generalize clashesR l r n i k = y at *
    simp [a1, a2, a3, a4, a5]
end Go.Proofs.Ytciepmpadcpkbaa.G
