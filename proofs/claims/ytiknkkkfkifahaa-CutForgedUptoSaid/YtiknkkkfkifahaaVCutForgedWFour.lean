import Derived.Test.YtiknkkkfkifahaaVCutForgedWTab
/- What this claim names of the words that its proofs lean on: gathered out of them by a program of this session (shake.py). By an AI agent. -/
/-! ### 56. Four, five, six operations that may come up next, in any order -/
namespace Go.Proofs.YtiknkkkfkifahaaW.PrintLast
section
variable {P : Program} {ops : Array Oper} {Q : Exit → Act → World → Prop} {md : Region.Mode} {S : World → Prop} {ds : List Nat} {T : Bool × List (List Nat × List Nat)}
end
end Go.Proofs.YtiknkkkfkifahaaW.PrintLast

