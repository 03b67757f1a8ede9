import Derived.Test.YtdppmkcahfjceaaVCoinFitsWInv
import Derived.Test.YtdppmkcahfjceaaVCoinFitsWFootNe
/- What this claim names of the words that its proofs lean on: gathered out of them by a program of this session (shake.py). By an AI agent. -/
namespace Go.Proofs.YtdppmkcahfjceaaW.PrintWords
open Go.RowKit
end Go.Proofs.YtdppmkcahfjceaaW.PrintWords
namespace Go.Proofs.YtdppmkcahfjceaaW.PrintLast
section
variable {ops : Array Oper} {a : Act} {o og : Oper} {g : Nat} {t : Tmp} {u : Bool}
end
end Go.Proofs.YtdppmkcahfjceaaW.PrintLast

