-- written by a program of this session (pp.py)
import Derived.Test.YtefdokolbdnjnaaPShaTurnsx1
import Derived.Test.YtefdokolbdnjnaaOpn
namespace Go.Proofs.Ytefdokolbdnjnaa.PShaTurns
open Go.RowKit Go.Proofs.YtefdokolbdnjnaaW.PrintWords Go.Proofs.YtefdokolbdnjnaaW.PrintLast
set_option linter.unusedVariables false
set_option maxRecDepth 100000
/-- THE ONE PURE STATEMENT of selvedgelaw02_ShaTurns -/
def selvedgelaw02_ShaTurns.Pure : Prop := ∀ (a0 : ByteArray), (fun s : ByteArray => s.size ≤ 140737488351232) a0 → selvedgelaw02_ShaTurns.f a0 = some true
end Go.Proofs.Ytefdokolbdnjnaa.PShaTurns
