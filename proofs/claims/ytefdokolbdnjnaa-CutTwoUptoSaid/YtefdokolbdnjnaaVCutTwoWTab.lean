import Derived.Test.YtefdokolbdnjnaaVCutTwoWLast
import Derived.Test.YtefdokolbdnjnaaVCutTwoWWords
/- What this claim names of the words that its proofs lean on: gathered out of them by a program of this session (shake.py). By an AI agent. -/
/-! ### 50. A region's order in a table, made once a region: each step asks the table (numbers alone), not the operations -/
namespace Go.Proofs.YtefdokolbdnjnaaW.PrintLast
open Go.Proofs.YtefdokolbdnjnaaW.PrintWords (Aside0)
section
variable {md : Region.Mode} {ops : Array Oper} {T : Bool × List (List Nat × List Nat)} {l l' li lj lk : Array Bool} {ds : List Nat} {i j k : Nat}
end
end Go.Proofs.YtefdokolbdnjnaaW.PrintLast

