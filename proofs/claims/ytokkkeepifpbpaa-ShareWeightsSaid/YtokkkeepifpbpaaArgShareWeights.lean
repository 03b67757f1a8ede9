-- written by a program of this session (pp.py)
import Derived.Test.YtokkkeepifpbpaaPShareWeightsx3
import Derived.Test.YtokkkeepifpbpaaOpn
namespace Go.Proofs.Ytokkkeepifpbpaa.PShareWeights
open Go.RowKit Go.Proofs.YtokkkeepifpbpaaW.PrintWords Go.Proofs.YtokkkeepifpbpaaW.PrintLast
set_option linter.unusedVariables false
set_option maxRecDepth 100000
/-- THE ONE PURE STATEMENT of selvedgelaw04_ShareWeights -/
def selvedgelaw04_ShareWeights.Pure : Prop := ∀ (l0 : List Int), (fun xs : List Int => xs.length * 8 ≤ 140737488351232 ∧ ∀ x ∈ xs, (fun n : Int => (Lit.int .i64 n).wf = true) x) l0 → ∃ k, selvedgelaw04_ShareWeights.f k l0 = some true
end Go.Proofs.Ytokkkeepifpbpaa.PShareWeights
