-- written by a program of this session (pp.py)
import Derived.Test.YtefdokolbdnjnaaPShaHexx1
import Derived.Test.YtefdokolbdnjnaaOpu
namespace Go.Proofs.Ytefdokolbdnjnaa.PShaHex
open Go.RowKit Go.Proofs.YtefdokolbdnjnaaW.PrintWords Go.Proofs.YtefdokolbdnjnaaW.PrintLast
set_option linter.unusedVariables false
set_option maxRecDepth 100000
/-- THE ONE PURE STATEMENT of selvedgelaw02_ShaHex -/
def selvedgelaw02_ShaHex.Pure : Prop := ∀ (a0 : ByteArray) (a1 : ByteArray), (fun s : ByteArray => s.size ≤ 140737488351232) a0 → (fun s : ByteArray => s.size ≤ 140737488351232) a1 → (fun s : ByteArray => s.size + 1) a0 + (fun s : ByteArray => s.size + 1) a1 ≤ 1048576 → selvedgelaw02_ShaHex.f a0 a1 = some true
end Go.Proofs.Ytefdokolbdnjnaa.PShaHex
