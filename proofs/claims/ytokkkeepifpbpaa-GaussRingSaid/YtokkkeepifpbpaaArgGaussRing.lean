-- written by a program of this session (pp.py)
import Derived.Test.YtokkkeepifpbpaaPGaussRingx3
import Derived.Test.YtokkkeepifpbpaaOpn
namespace Go.Proofs.Ytokkkeepifpbpaa.PGaussRing
open Go.RowKit Go.Proofs.YtokkkeepifpbpaaW.PrintWords Go.Proofs.YtokkkeepifpbpaaW.PrintLast
set_option linter.unusedVariables false
set_option maxRecDepth 100000
instance : Inhabited S23 := ⟨z23⟩
def G23 (x : S23) : Prop := (fun n : Int => (Lit.int .i64 n).wf = true) x.f0 ∧ (fun n : Int => (Lit.int .i64 n).wf = true) x.f1
theorem o23 : Opn.Opn Try.prog 23 k23 G23 :=
  (Opn.Opn.struct (P := Try.prog) (t := 23) Try.underlying23 (by kernel_rfl) (by kernel_rfl) (by kernel_rfl) (by kernel_rfl) (Opn.Seq.cons (Opn.Opn.int (P := Try.prog) (t := 3) (k := .i64) (by kernel_rfl) (by kernel_rfl)) (Opn.Seq.one (Opn.Opn.int (P := Try.prog) (t := 3) (k := .i64) (by kernel_rfl) (by kernel_rfl)))) (fun x : S23 => (x.f0, x.f1)) (fun p => ⟨p.1, p.2⟩) (fun _ => rfl)).weaken (fun _ h => h)
/-- THE ONE PURE STATEMENT of selvedgelaw03_GaussRing -/
def selvedgelaw03_GaussRing.Pure : Prop := ∀ (x0 : S23) (x1 : S23) (x2 : S23), G23 x0 → G23 x1 → G23 x2 → ∃ k, selvedgelaw03_GaussRing.f k x0.f0 x0.f1 x1.f0 x1.f1 x2.f0 x2.f1 = some true
end Go.Proofs.Ytokkkeepifpbpaa.PGaussRing
