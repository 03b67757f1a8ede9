-- written by a program of this session (pp.py), out of the kit's print and this session's contracts
import Derived.Test.YtefdokolbdnjnaaPShaTurnsx0
namespace Go.Proofs.Ytefdokolbdnjnaa.PShaTurns
open Go.RowKit Go.Proofs.YtefdokolbdnjnaaW.PrintWords Go.Proofs.YtefdokolbdnjnaaW.PrintLast Go.Proofs.YtefdokolbdnjnaaW.PrintMore
attribute [local go_sem] max2_int min2_int max_two min_two max_three min_three max_four min_four   -- for this text's walks alone
set_option linter.unusedVariables false
set_option linter.unusedSimpArgs false

/-! ### selvedgelaw02_ShaTurns: function 10 -/
def selvedgelaw02_ShaTurns.f (a0 : ByteArray) : Option Bool := if a0.size ≤ 140737488351232 then some true else none
theorem selvedgelaw02_ShaTurns.calls (a0 : ByteArray) (r : Bool) (w : World) (h : selvedgelaw02_ShaTurns.f a0 = some r) :
    Calls Try.prog 10 #[.string a0] w fun e w' => e = .returned (.bool r) ∧ Below w.heap.size w w' := by
  unfold selvedgelaw02_ShaTurns.f at h
  by_cases hs : a0.size ≤ 140737488351232
  · rw [if_pos hs] at h
    obtain rfl := Option.some.inj h
    exact Sa.lawTurns_c a0 hs w
  · rw [if_neg hs] at h; cases h

end Go.Proofs.Ytefdokolbdnjnaa.PShaTurns
