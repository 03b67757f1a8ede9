-- written by a program of this session (pp.py), out of the kit's print and this session's contracts
import Derived.Test.YtefdokolbdnjnaaProg
import Derived.Below
import Derived.Deep.Draws
import Derived.Deep.AppendLies
import Derived.Maps.AppendAt
import Derived.OwnWalk
import Derived.Laws.BytesArg
import Derived.Laws.MakeOwn
import Derived.Laws.OwnMore
import Derived.Deep.OwnRows
import Derived.Tactics
import Derived.Lib.ConvBytes
import Derived.Laws.Slices
import Derived.WalkKit
import Derived.KernelRfl
import Derived.RowKit3
import Derived.Deep.LoopGhost
import Derived.Deep.QuietTactic
import Derived.BigQuiet
import Derived.WideLaws
import Derived.Deep.DeepCutAuto
import Derived.Deep.CutBlock
import Derived.Deep.RegionHeld3
import Derived.Laws.Rows
import Derived.Lib.AppendStr
import Derived.ArgAppend
import Derived.Laws.IdiomCopy
import Derived.OrdersHeld
import Derived.Laws.BitsLemmas
import Derived.RowKit
import Derived.Test.YtefdokolbdnjnaaTn
import Derived.Test.YtefdokolbdnjnaaHx
import Derived.Test.YtefdokolbdnjnaaRs
import Derived.Test.YtefdokolbdnjnaaSq
import Derived.Test.YtefdokolbdnjnaaSu
import Derived.Test.YtefdokolbdnjnaaWWords
import Derived.Test.YtefdokolbdnjnaaWLast
import Derived.Test.YtefdokolbdnjnaaWTab
import Derived.Test.YtefdokolbdnjnaaWFour
import Derived.Test.YtefdokolbdnjnaaWQPut
import Derived.Test.YtefdokolbdnjnaaWApart
import Derived.Test.YtefdokolbdnjnaaWArr
import Derived.Test.YtefdokolbdnjnaaWZeros
import Derived.Test.YtefdokolbdnjnaaWFoot
import Derived.Test.YtefdokolbdnjnaaWKept
import Derived.Test.YtefdokolbdnjnaaWShare
import Derived.Test.YtefdokolbdnjnaaWN
import Derived.Test.YtefdokolbdnjnaaWFootNe
import Derived.Test.YtefdokolbdnjnaaWAt
import Derived.Test.YtefdokolbdnjnaaWEqStruct
import Derived.Test.YtefdokolbdnjnaaWRepsOne
import Derived.Test.YtefdokolbdnjnaaWInv
import Derived.Test.YtefdokolbdnjnaaWInvWords
import Derived.Test.YtefdokolbdnjnaaWGuard
import Derived.Test.YtefdokolbdnjnaaWNEv
import Derived.Test.YtefdokolbdnjnaaWMore
namespace Go.Proofs.Ytefdokolbdnjnaa.PShaTurns
open Go.RowKit Go.Proofs.YtefdokolbdnjnaaW.PrintWords Go.Proofs.YtefdokolbdnjnaaW.PrintLast Go.Proofs.YtefdokolbdnjnaaW.PrintMore
attribute [local go_sem] max2_int min2_int max_two min_two max_three min_three max_four min_four   -- for this text's walks alone
set_option linter.unusedVariables false
set_option linter.unusedSimpArgs false



def errW : Option Int → Value
  | none => .nilIface
  | some c => .iface 0 (.int .i64 c)
theorem errW_none : errW none = .nilIface := rfl
theorem errW_some (c : Int) : errW (some c) = .iface 0 (.int .i64 c) := rfl

-- the values' own types

end Go.Proofs.Ytefdokolbdnjnaa.PShaTurns
