-- written by a program of this session (pp.py)
import Derived.Test.YtefdokolbdnjnaaPShaWordsx1
import Derived.Test.YtefdokolbdnjnaaOpn
namespace Go.Proofs.Ytefdokolbdnjnaa.PShaWords
open Go.RowKit Go.Proofs.YtefdokolbdnjnaaW.PrintWords Go.Proofs.YtefdokolbdnjnaaW.PrintLast
set_option linter.unusedVariables false
set_option maxRecDepth 100000
/-- THE ONE PURE STATEMENT of selvedgelaw02_ShaWords -/
def selvedgelaw02_ShaWords.Pure : Prop := selvedgelaw02_ShaWords.f  = some true
end Go.Proofs.Ytefdokolbdnjnaa.PShaWords
