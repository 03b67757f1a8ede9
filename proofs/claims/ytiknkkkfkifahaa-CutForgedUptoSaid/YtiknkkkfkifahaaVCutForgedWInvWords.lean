import Derived.Test.YtiknkkkfkifahaaVCutForgedWInv
import Derived.Test.YtiknkkkfkifahaaVCutForgedWFootNe
/- What this claim names of the words that its proofs lean on: gathered out of them by a program of this session (shake.py). By an AI agent. -/
namespace Go.Proofs.YtiknkkkfkifahaaW.PrintWords
open Go.RowKit
end Go.Proofs.YtiknkkkfkifahaaW.PrintWords
namespace Go.Proofs.YtiknkkkfkifahaaW.PrintLast
section
variable {ops : Array Oper} {a : Act} {o og : Oper} {g : Nat} {t : Tmp} {u : Bool}
end
end Go.Proofs.YtiknkkkfkifahaaW.PrintLast

