import Derived.Test.YtefdokolbdnjnaaVCutFeedsWInv
import Derived.Test.YtefdokolbdnjnaaVCutFeedsWFootNe
/- What this claim names of the words that its proofs lean on: gathered out of them by a program of this session (shake.py). By an AI agent. -/
namespace Go.Proofs.YtefdokolbdnjnaaW.PrintWords
open Go.RowKit
end Go.Proofs.YtefdokolbdnjnaaW.PrintWords
namespace Go.Proofs.YtefdokolbdnjnaaW.PrintLast
section
variable {ops : Array Oper} {a : Act} {o og : Oper} {g : Nat} {t : Tmp} {u : Bool}
end
end Go.Proofs.YtefdokolbdnjnaaW.PrintLast

