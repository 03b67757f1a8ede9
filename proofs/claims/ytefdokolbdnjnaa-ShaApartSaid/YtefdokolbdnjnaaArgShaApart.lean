-- written by a program of this session (pp.py)
import Derived.Test.YtefdokolbdnjnaaPShaApartx1
import Derived.Test.YtefdokolbdnjnaaOpn
namespace Go.Proofs.Ytefdokolbdnjnaa.PShaApart
open Go.RowKit Go.Proofs.YtefdokolbdnjnaaW.PrintWords Go.Proofs.YtefdokolbdnjnaaW.PrintLast
set_option linter.unusedVariables false
set_option maxRecDepth 100000
/-- THE ONE PURE STATEMENT of selvedgelaw02_ShaApart -/
def selvedgelaw02_ShaApart.Pure : Prop := ∀ (a0 : ByteArray) (a1 : ByteArray), (fun s : ByteArray => s.size ≤ 140737488351232) a0 → (fun s : ByteArray => s.size ≤ 140737488351232) a1 → selvedgelaw02_ShaApart.f a0 a1 = some true
end Go.Proofs.Ytefdokolbdnjnaa.PShaApart
