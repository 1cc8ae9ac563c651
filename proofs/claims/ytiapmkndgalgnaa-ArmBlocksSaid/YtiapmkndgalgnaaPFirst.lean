/- The first check of all laws answers true. Plain Lean. -/
import Derived.Test.YtiapmkndgalgnaaGF14
namespace Go.Proofs.Ytiapmkndgalgnaa.G
set_option linter.unusedVariables false
open Go.RowKit Go.Proofs.YtiapmkndgalgnaaW.PrintWords Go.Proofs.YtiapmkndgalgnaaW.PrintLast
theorem first_ev : Ev (fun k => dropperlaw03_First.f k) true := Ev.of (fun k => dropperlaw03_First.mono k) (k := 40) (by decide +kernel)
end Go.Proofs.Ytiapmkndgalgnaa.G
