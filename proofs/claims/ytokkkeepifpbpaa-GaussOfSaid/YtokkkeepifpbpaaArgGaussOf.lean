-- written by a program of this session (pp.py)
import Derived.Test.YtokkkeepifpbpaaPGaussOfx2
import Derived.Test.YtokkkeepifpbpaaOpn
namespace Go.Proofs.Ytokkkeepifpbpaa.PGaussOf
open Go.RowKit Go.Proofs.YtokkkeepifpbpaaW.PrintWords Go.Proofs.YtokkkeepifpbpaaW.PrintLast
set_option linter.unusedVariables false
set_option maxRecDepth 100000
/-- THE ONE PURE STATEMENT of selvedgelaw03_GaussOf -/
def selvedgelaw03_GaussOf.Pure : Prop := ∀ (a0 : Int) (a1 : Int), (fun n : Int => (Lit.int .u64 n).wf = true) a0 → (fun n : Int => (Lit.int .u64 n).wf = true) a1 → ∃ k, selvedgelaw03_GaussOf.f k a0 a1 = some true
end Go.Proofs.Ytokkkeepifpbpaa.PGaussOf
