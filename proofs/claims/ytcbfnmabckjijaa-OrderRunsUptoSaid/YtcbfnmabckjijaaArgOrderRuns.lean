-- written by a program of this session (pp.py)
import Derived.Test.YtcbfnmabckjijaaPOrderRunsx3
import Derived.Test.YtcbfnmabckjijaaOpu
namespace Go.Proofs.Ytcbfnmabckjijaa.POrderRuns
open Go.RowKit Go.Proofs.YtcbfnmabckjijaaW.PrintWords Go.Proofs.YtcbfnmabckjijaaW.PrintLast
set_option linter.unusedVariables false
set_option maxRecDepth 100000
/-- THE ONE PURE STATEMENT of selvedgelaw14_OrderRuns -/
def selvedgelaw14_OrderRuns.Pure : Prop := ∀ (a0 : Int) (a1 : Int), (fun n : Int => (Lit.int .i64 n).wf = true) a0 → (fun n : Int => (Lit.int .i64 n).wf = true) a1 → (fun _ : Int => 1) a0 + (fun _ : Int => 1) a1 ≤ 1048576 → ∃ k, selvedgelaw14_OrderRuns.f k a0 a1 = some true
end Go.Proofs.Ytcbfnmabckjijaa.POrderRuns
