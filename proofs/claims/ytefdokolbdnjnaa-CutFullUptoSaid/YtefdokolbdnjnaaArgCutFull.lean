-- written by a program of this session (pp.py)
import Derived.Test.YtefdokolbdnjnaaPCutFullx2
import Derived.Test.YtefdokolbdnjnaaOpu
namespace Go.Proofs.Ytefdokolbdnjnaa.PCutFull
open Go.RowKit Go.Proofs.YtefdokolbdnjnaaW.PrintWords Go.Proofs.YtefdokolbdnjnaaW.PrintLast
set_option linter.unusedVariables false
set_option maxRecDepth 100000
/-- THE ONE PURE STATEMENT of selvedgelaw15_CutFull -/
def selvedgelaw15_CutFull.Pure : Prop := ∀ (l0 : List ByteArray), (fun xs : List ByteArray => xs.length * 16 ≤ 140737488351232 ∧ ∀ x ∈ xs, (fun s : ByteArray => s.size ≤ 140737488351232) x) l0 → (fun xs : List ByteArray => (xs.map (fun s : ByteArray => s.size + 1)).sum + 1) l0 ≤ 1048576 → ∃ k, selvedgelaw15_CutFull.f k l0 = some true
end Go.Proofs.Ytefdokolbdnjnaa.PCutFull
