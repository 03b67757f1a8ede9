-- written by a program of this session (pp.py), out of the kit's print and this session's contracts
import Derived.Test.YtefdokolbdnjnaaPShaWordsx0
namespace Go.Proofs.Ytefdokolbdnjnaa.PShaWords
open Go.RowKit Go.Proofs.YtefdokolbdnjnaaW.PrintWords Go.Proofs.YtefdokolbdnjnaaW.PrintLast Go.Proofs.YtefdokolbdnjnaaW.PrintMore
attribute [local go_sem] max2_int min2_int max_two min_two max_three min_three max_four min_four   -- for this text's walks alone
set_option linter.unusedVariables false
set_option linter.unusedSimpArgs false

/-! ### selvedgelaw02_ShaWords: function 3 -/
def selvedgelaw02_ShaWords.f : Option Bool := some true
theorem selvedgelaw02_ShaWords.calls (r : Bool) (w : World) (h : selvedgelaw02_ShaWords.f = some r) :
    Calls Try.prog 3 #[] w fun e w' => e = .returned (.bool r) ∧ Below w.heap.size w w' := by
  unfold selvedgelaw02_ShaWords.f at h
  obtain rfl := Option.some.inj h
  exact Sa.lawWords_c w

end Go.Proofs.Ytefdokolbdnjnaa.PShaWords
