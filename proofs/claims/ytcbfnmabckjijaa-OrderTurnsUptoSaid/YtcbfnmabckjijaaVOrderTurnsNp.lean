import Derived.Test.YtcbfnmabckjijaaVOrderTurnsNv
/- Trimmed by a program. By an AI agent. -/
namespace Go.Proofs.Ytcbfnmabckjijaa.Si
open Go.RowKit
set_option linter.unusedVariables false
set_option linter.unusedSimpArgs false
theorem ixL_succ {α : Type} (p : α → Bool) : ∀ (l : List α) (i : Nat), ixL p l (i + 1) = if 0 ≤ ixL p l i then ixL p l i + 1 else ixL p l i
 | [], i => by simp [ixL]
 | x :: r, i => by
  rw [ixL, ixL]
  by_cases h : p x = true
  ·
   rw [if_pos h, if_pos h, if_pos (by omega)]; omega
  ·
   rw [if_neg h, if_neg h, ixL_succ p r (i + 1)]
end Go.Proofs.Ytcbfnmabckjijaa.Si
