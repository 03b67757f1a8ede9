import Derived.Test.YtcbfnmabckjijaaProg
import Derived.Test.YtcbfnmabckjijaaVTuskStopsWMore
import Derived.Lib.SliceRun
import Derived.Lib.Walk
import Derived.Deep.AppendLies
import Derived.Deep.LoopGhost
import Derived.Lib.Hide
import Derived.BigQuiet
import Derived.Lib.Overlaps
import Derived.Lib.AppendZerosOnto
import Derived.Laws.CopyOwn
import Derived.Laws.OwnMore
import Derived.Shelf.RegionOpenPlain
import Derived.WalkKit
import Derived.Laws.Externs
import Derived.Test.YtcbfnmabckjijaaVTuskStopsIe
import Derived.Test.YtcbfnmabckjijaaVTuskStopsNo
import Derived.Test.YtcbfnmabckjijaaVTuskStopsWN
/- Trimmed by a program. By an AI agent. -/
namespace Go.Proofs.Ytcbfnmabckjijaa.Si
open Go.RowKit Go.Lib Go.Proofs.YtcbfnmabckjijaaW.PrintWords Go.Proofs.YtcbfnmabckjijaaW.PrintLast Go.Proofs.YtcbfnmabckjijaaW.PrintMore
set_option linter.unusedVariables false
set_option linter.unusedSimpArgs false
theorem row_str {W : World} {ok : Nat → Prop} {A : Option Addr} {l : List ByteArray} (h : Kd.F Kd.string W ok A l.length l) : Rowstr W A l := by
 intro i x hx
 have hC := Kd.F_now h
 have hi : i < l.length := (List.getElem?_eq_some_iff.1 hx).1
 obtain ⟨ad, hA, hc⟩ := hC.2.2 (by omega)
 obtain ⟨cs, _, hK, hcs⟩ := hc i x hx
 have hK' : cs = [.string x] := hK
 subst hK'
 have h0 := hcs 0 _ rfl
 refine ⟨ad, hA, ?_⟩
 have e3 : Kd.string.sz = 1 := rfl
 rw [e3, Nat.mul_one, Nat.add_zero] at h0
 exact h0
end Go.Proofs.Ytcbfnmabckjijaa.Si
