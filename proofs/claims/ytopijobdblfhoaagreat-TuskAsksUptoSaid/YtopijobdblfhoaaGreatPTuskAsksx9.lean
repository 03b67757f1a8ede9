-- written by a program of this session (pp.py), out of the kit's print and this session's contracts
import Derived.Test.YtopijobdblfhoaaGreatPTuskAsksx0
import Derived.Test.YtopijobdblfhoaaGreatPTuskAsksx6
import Derived.Test.YtopijobdblfhoaaGreatPTuskAsksx7
import Derived.Test.YtopijobdblfhoaaGreatVTuskAsksPi
namespace Go.Proofs.YtopijobdblfhoaaGreat.PTuskAsks
open Go.RowKit Go.Proofs.YtopijobdblfhoaaGreatW.PrintWords Go.Proofs.YtopijobdblfhoaaGreatW.PrintLast Go.Proofs.YtopijobdblfhoaaGreatW.PrintMore
set_option linter.unusedVariables false
set_option linter.unusedSimpArgs false

def H5.f (a0 : ByteArray) : Option ByteArray := if a0.size ≤ 140737488351232 then some (Sa.textB a0) else none
theorem H5.calls (a0 : ByteArray) (r : ByteArray) (w : World) (h : H5.f a0 = some r) :
  Calls Tryz.prog 85 #[.string a0] w fun e w' => e = .returned (.string r) ∧ Below w.heap.size w w' := by
 unfold H5.f at h
 by_cases hs : a0.size ≤ 140737488351232
 ·
  rw [if_pos hs] at h
  obtain rfl := Option.some.inj h
  exact Sa.rtext_c a0 hs w
 rw [if_neg hs] at h; cases h

def Gr.f (l0 : List ByteArray) : Option ByteArray := if Sa.sizes l0 + 9 ≤ 140737488351232 then some (Sa.rowB l0) else none
theorem Gr.calls (A0 : Option Addr) (c0 : Nat) (l0 : List ByteArray) (r : ByteArray) (w : World) (a0 : Kd.C Kd.string w A0 l0.length l0) (m0 : l0.length ≤ c0) (h : Gr.f l0 = some r) :
  Calls Tryz.prog 90 #[.slice A0 l0.length c0] w fun e w' => e = .returned (.string r) ∧ Below w.heap.size w w' := by
 unfold Gr.f at h
 by_cases hs : Sa.sizes l0 + 9 ≤ 140737488351232
 ·
  rw [if_pos hs] at h
  obtain rfl := Option.some.inj h
  exact Sa.rrow_c A0 c0 l0 w a0 hs
 rw [if_neg hs] at h; cases h

end Go.Proofs.YtopijobdblfhoaaGreat.PTuskAsks
