-- written by a program of this session (pp.py)
import Derived.Test.YtokkkeepifpbpaaPShareHidesx5
import Derived.Test.YtokkkeepifpbpaaOpn
namespace Go.Proofs.Ytokkkeepifpbpaa.PShareHides
open Go.RowKit Go.Proofs.YtokkkeepifpbpaaW.PrintWords Go.Proofs.YtokkkeepifpbpaaW.PrintLast
set_option linter.unusedVariables false
set_option maxRecDepth 100000
instance : Inhabited S23 := ⟨z23⟩
def G23 (x : S23) : Prop := (fun n : Int => (Lit.int .i64 n).wf = true) x.f0 ∧ (fun n : Int => (Lit.int .i64 n).wf = true) x.f1
theorem o23 : Opn.Opn Try.prog 23 k23 G23 :=
  (Opn.Opn.struct (P := Try.prog) (t := 23) Try.underlying23 (by kernel_rfl) (by kernel_rfl) (by kernel_rfl) (by kernel_rfl) (Opn.Seq.cons (Opn.Opn.int (P := Try.prog) (t := 3) (k := .i64) (by kernel_rfl) (by kernel_rfl)) (Opn.Seq.one (Opn.Opn.int (P := Try.prog) (t := 3) (k := .i64) (by kernel_rfl) (by kernel_rfl)))) (fun x : S23 => (x.f0, x.f1)) (fun p => ⟨p.1, p.2⟩) (fun _ => rfl)).weaken (fun _ h => h)
/-- THE ONE PURE STATEMENT of selvedgelaw04_ShareHides -/
def selvedgelaw04_ShareHides.Pure : Prop := ∀ (l0 : List S23) (l1 : List Int) (x2 : S23), (fun xs : List S23 => xs.length * 16 ≤ 140737488351232 ∧ ∀ x ∈ xs, G23 x) l0 → (fun xs : List Int => xs.length * 8 ≤ 140737488351232 ∧ ∀ x ∈ xs, (fun n : Int => (Lit.int .i64 n).wf = true) x) l1 → G23 x2 → ∃ k, selvedgelaw04_ShareHides.f k l0 l1 x2.f0 x2.f1 = some true
end Go.Proofs.Ytokkkeepifpbpaa.PShareHides
