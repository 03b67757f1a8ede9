import Derived.Test.YtiknkkkfkifahaaVCutForgedWN
/- What this claim names of the words that its proofs lean on: gathered out of them by a program of this session (shake.py). By an AI agent. -/
/-! ### 52. A row that stays read whatever happens to a block (a set of blocks) doesn't lie there -/
namespace Go.Proofs.YtiknkkkfkifahaaW.PrintWords
open Go.RowKit
namespace Kd
section
variable {α : Type} {d : Kd α} {W : World} {g n : Nat} {S ok : Nat → Prop} {A : Option Addr} {ad : Addr} {xs : List α}
end
end Kd
end Go.Proofs.YtiknkkkfkifahaaW.PrintWords

