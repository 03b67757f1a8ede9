-- written by a program of this session (pp.py)
import Derived.Test.YtcbfnmabckjijaaPOrderMarksx6
import Derived.Test.YtcbfnmabckjijaaOpu
namespace Go.Proofs.Ytcbfnmabckjijaa.POrderMarks
open Go.RowKit Go.Proofs.YtcbfnmabckjijaaW.PrintWords Go.Proofs.YtcbfnmabckjijaaW.PrintLast
set_option linter.unusedVariables false
set_option maxRecDepth 100000
instance : Inhabited S54 := ⟨z54⟩
def G54 (x : S54) : Prop := (fun n : Int => (Lit.int .i64 n).wf = true) x.f0 ∧ (fun n : Int => (Lit.int .i64 n).wf = true) x.f1 ∧ (fun xs : List Int => xs.length * 8 ≤ 140737488351232 ∧ ∀ x ∈ xs, (fun n : Int => (Lit.int .i64 n).wf = true) x) x.f2
def B54 (x : S54) : Nat := (fun _ : Int => 1) x.f0 + (fun _ : Int => 1) x.f1 + (fun xs : List Int => (xs.map (fun _ : Int => 1)).sum + 1) x.f2 + 1
theorem o54 : Opn.Opu Try.prog 54 k54 G54 B54 :=
  (Opn.Opu.struct (P := Try.prog) (t := 54) Try.underlying54 (by kernel_rfl) (by kernel_rfl) (by kernel_rfl) (by kernel_rfl) (Opn.Squ.cons (Opn.Opu.int (P := Try.prog) (t := 3) (k := .i64) (by kernel_rfl) (by kernel_rfl)) (Opn.Squ.cons (Opn.Opu.int (P := Try.prog) (t := 3) (k := .i64) (by kernel_rfl) (by kernel_rfl)) (Opn.Squ.one (Opn.Opu.slice (P := Try.prog) (t := 52) (e := 3) (bytes := 8) (by kernel_rfl) (by kernel_rfl) (by kernel_rfl) (Opn.Opu.int (P := Try.prog) (t := 3) (k := .i64) (by kernel_rfl) (by kernel_rfl)))))) (fun x : S54 => (x.f0, x.f1, x.f2)) (fun p => ⟨p.1, p.2.1, p.2.2⟩) (fun _ => rfl)).weaken (fun _ h => h) (fun x => by unfold B54; simp only []; omega)
/-- THE ONE PURE STATEMENT of selvedgelaw14_OrderMarks -/
def selvedgelaw14_OrderMarks.Pure : Prop := ∀ (l0 : List S54) (a1 : Int) (a2 : Int), (fun xs : List S54 => xs.length * 40 ≤ 140737488351232 ∧ ∀ x ∈ xs, G54 x) l0 → (fun n : Int => (Lit.int .i64 n).wf = true) a1 → (fun n : Int => (Lit.int .i64 n).wf = true) a2 → (fun xs : List S54 => (xs.map B54).sum + 1) l0 + (fun _ : Int => 1) a1 + (fun _ : Int => 1) a2 ≤ 1048576 → ∃ k, selvedgelaw14_OrderMarks.f k l0 a1 a2 = some true
end Go.Proofs.Ytcbfnmabckjijaa.POrderMarks
