-- written by a program of this session (pp.py)
import Derived.Test.YtcbfnmabckjijaaPOrderNotesx5
import Derived.Test.YtcbfnmabckjijaaOpu
namespace Go.Proofs.Ytcbfnmabckjijaa.POrderNotes
open Go.RowKit Go.Proofs.YtcbfnmabckjijaaW.PrintWords Go.Proofs.YtcbfnmabckjijaaW.PrintLast
set_option linter.unusedVariables false
set_option maxRecDepth 100000
instance : Inhabited S50 := ⟨z50⟩
def G50 (x : S50) : Prop := (fun n : Int => (Lit.int .i64 n).wf = true) x.f0 ∧ (fun n : Int => (Lit.int .i64 n).wf = true) x.f1
def B50 (x : S50) : Nat := (fun _ : Int => 1) x.f0 + (fun _ : Int => 1) x.f1 + 1
theorem o50 : Opn.Opu Try.prog 50 k50 G50 B50 :=
  (Opn.Opu.struct (P := Try.prog) (t := 50) Try.underlying50 (by kernel_rfl) (by kernel_rfl) (by kernel_rfl) (by kernel_rfl) (Opn.Squ.cons (Opn.Opu.int (P := Try.prog) (t := 3) (k := .i64) (by kernel_rfl) (by kernel_rfl)) (Opn.Squ.one (Opn.Opu.int (P := Try.prog) (t := 3) (k := .i64) (by kernel_rfl) (by kernel_rfl)))) (fun x : S50 => (x.f0, x.f1)) (fun p => ⟨p.1, p.2⟩) (fun _ => rfl)).weaken (fun _ h => h) (fun x => by unfold B50; simp only []; omega)
/-- THE ONE PURE STATEMENT of selvedgelaw14_OrderNotes -/
def selvedgelaw14_OrderNotes.Pure : Prop := ∀ (l0 : List S50), (fun xs : List S50 => xs.length * 16 ≤ 140737488351232 ∧ ∀ x ∈ xs, G50 x) l0 → (fun xs : List S50 => (xs.map B50).sum + 1) l0 ≤ 1048576 → ∃ k, selvedgelaw14_OrderNotes.f k l0 = some true
end Go.Proofs.Ytcbfnmabckjijaa.POrderNotes
