import Derived.Test.YtcbfnmabckjijaaProg
import Derived.Test.YtcbfnmabckjijaaVTuskStopsWMore
import Derived.Lib.SliceRun
import Derived.Lib.Walk
import Derived.Deep.AppendLies
import Derived.Deep.LoopGhost
import Derived.Lib.Hide
import Derived.BigQuiet
import Derived.Lib.Overlaps
import Derived.Lib.AppendZerosOnto
import Derived.Laws.CopyOwn
import Derived.Laws.OwnMore
import Derived.Shelf.RegionOpenPlain
import Derived.WalkKit
import Derived.Laws.Externs
import Derived.Test.YtcbfnmabckjijaaVTuskStopsWShare
import Derived.ScopeJumps
import Derived.Deep.Onto
import Derived.WalkMore
section
/- Trimmed by a program. By an AI agent. -/
namespace Go.Proofs.Ytcbfnmabckjijaa.Si
open Go.RowKit Go.Lib Go.Proofs.YtcbfnmabckjijaaW.PrintWords Go.Proofs.YtcbfnmabckjijaaW.PrintLast Go.Proofs.YtcbfnmabckjijaaW.PrintMore
set_option linter.unusedVariables false
set_option linter.unusedSimpArgs false
def ixL {α : Type} (p : α → Bool) : List α → Nat → Int
 | [], _ => -1
 | x :: r, i => if p x then (i : Int) else ixL p r (i + 1)
end Go.Proofs.Ytcbfnmabckjijaa.Si
end
section
/- Trimmed by a program. By an AI agent. -/
namespace Go.Proofs.Ytcbfnmabckjijaa.Si
open Go.RowKit Go.Lib Go.Proofs.YtcbfnmabckjijaaW.PrintWords Go.Proofs.YtcbfnmabckjijaaW.PrintLast Go.Proofs.YtcbfnmabckjijaaW.PrintMore
set_option linter.unusedVariables false
set_option linter.unusedSimpArgs false
theorem ixL_lt {α : Type} (p : α → Bool) : ∀ (l : List α) (i : Nat), 0 ≤ ixL p l i → ∃ k : Nat, ixL p l i = ((i + k : Nat) : Int) ∧ k < l.length
 | [], i, h => by simp [ixL] at h
 | x :: r, i, h => by
  rw [ixL] at h ⊢
  by_cases hp : p x = true
  ·
   exact ⟨0, by rw [if_pos hp]; simp, by simp⟩
  ·
   rw [if_neg hp] at h ⊢
   obtain ⟨k, e, hk⟩ := ixL_lt p r (i + 1) h
   exact ⟨k + 1, by rw [e]; congr 1; omega, by simp; omega⟩
theorem enters_s {g : Nat} {fn : Func} (hf : Try.prog.funcs[g]? = some fn) (hname : (fn.name == "runtime.NumGoroutine") = false) (hb : fn.body.isSome = true) : ∀ args w, (callFunc g args).run Try.prog w = .ok (.enter g args) w := fun args w => enters_ hf hname hb args w
end Go.Proofs.Ytcbfnmabckjijaa.Si
end
section
/- Trimmed by a program. By an AI agent. -/
namespace Go.Proofs.Ytcbfnmabckjijaa.Si
open Go.RowKit Go.Lib Go.Proofs.YtcbfnmabckjijaaW.PrintWords Go.Proofs.YtcbfnmabckjijaaW.PrintLast Go.Proofs.YtcbfnmabckjijaaW.PrintMore
set_option linter.unusedVariables false
set_option linter.unusedSimpArgs false
theorem add_more (ad : Addr) (k j : Nat) (hj : 0 < j) : (⟨(ad.add k).block, (ad.add k).off + j, none⟩ : Addr) = ad.add (k + j) := by
 unfold Addr.add
 by_cases h : k = 0
 ·
  subst h
  rw [if_pos rfl, Nat.zero_add, if_neg (by omega)]
 ·
  rw [if_neg h, if_neg (by omega)]
  simp [Nat.add_assoc]
end Go.Proofs.Ytcbfnmabckjijaa.Si
end
