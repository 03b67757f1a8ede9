import Derived.Test.YtiknkkkfkifahaaVCutForgedWWords
import Derived.Laws.StructEq
/- What this claim names of the words that its proofs lean on: gathered out of them by a program of this session (shake.py). By an AI agent. -/
/-! ### 53. '==' of structs as_ one Bool -/
namespace Go.Proofs.YtiknkkkfkifahaaW.PrintWords
open Go.RowKit
section
variable {P : Program} {d : Nat} {xs ys : Array Value} {f : Field} {fs : List Field} {a b : Value} {r s : Bool} {w : World}
end
end Go.Proofs.YtiknkkkfkifahaaW.PrintWords

