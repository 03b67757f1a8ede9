-- written by a program of this session (pp.py)
import Derived.Test.YtefdokolbdnjnaaPShaTellsx1
import Derived.Test.YtefdokolbdnjnaaOpu
namespace Go.Proofs.Ytefdokolbdnjnaa.PShaTells
open Go.RowKit Go.Proofs.YtefdokolbdnjnaaW.PrintWords Go.Proofs.YtefdokolbdnjnaaW.PrintLast
set_option linter.unusedVariables false
set_option maxRecDepth 100000
/-- THE ONE PURE STATEMENT of selvedgelaw02_ShaTells -/
def selvedgelaw02_ShaTells.Pure : Prop := ∀ (a0 : ByteArray), (fun s : ByteArray => s.size ≤ 140737488351232) a0 → (fun s : ByteArray => s.size + 1) a0 ≤ 1048576 → ∃ k, selvedgelaw02_ShaTells.f k a0 = some true
end Go.Proofs.Ytefdokolbdnjnaa.PShaTells
