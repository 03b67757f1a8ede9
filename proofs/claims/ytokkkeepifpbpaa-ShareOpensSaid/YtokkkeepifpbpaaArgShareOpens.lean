-- written by a program of this session (pp.py)
import Derived.Test.YtokkkeepifpbpaaPShareOpensx5
import Derived.Test.YtokkkeepifpbpaaOpn
namespace Go.Proofs.Ytokkkeepifpbpaa.PShareOpens
open Go.RowKit Go.Proofs.YtokkkeepifpbpaaW.PrintWords Go.Proofs.YtokkkeepifpbpaaW.PrintLast
set_option linter.unusedVariables false
set_option maxRecDepth 100000
instance : Inhabited S23 := ⟨z23⟩
def G23 (x : S23) : Prop := (fun n : Int => (Lit.int .i64 n).wf = true) x.f0 ∧ (fun n : Int => (Lit.int .i64 n).wf = true) x.f1
theorem o23 : Opn.Opn Try.prog 23 k23 G23 :=
  (Opn.Opn.struct (P := Try.prog) (t := 23) Try.underlying23 (by kernel_rfl) (by kernel_rfl) (by kernel_rfl) (by kernel_rfl) (Opn.Seq.cons (Opn.Opn.int (P := Try.prog) (t := 3) (k := .i64) (by kernel_rfl) (by kernel_rfl)) (Opn.Seq.one (Opn.Opn.int (P := Try.prog) (t := 3) (k := .i64) (by kernel_rfl) (by kernel_rfl)))) (fun x : S23 => (x.f0, x.f1)) (fun p => ⟨p.1, p.2⟩) (fun _ => rfl)).weaken (fun _ h => h)
instance : Inhabited S43 := ⟨z43⟩
def G43 (x : S43) : Prop := (fun n : Int => (Lit.int .i64 n).wf = true) x.f0 ∧ G23 x.f1
theorem o43 : Opn.Opn Try.prog 43 k43 G43 :=
  (Opn.Opn.struct (P := Try.prog) (t := 43) Try.underlying43 (by kernel_rfl) (by kernel_rfl) (by kernel_rfl) (by kernel_rfl) (Opn.Seq.cons (Opn.Opn.int (P := Try.prog) (t := 3) (k := .i64) (by kernel_rfl) (by kernel_rfl)) (Opn.Seq.one o23)) (fun x : S43 => (x.f0, x.f1)) (fun p => ⟨p.1, p.2⟩) (fun _ => rfl)).weaken (fun _ h => h)
/-- THE ONE PURE STATEMENT of selvedgelaw04_ShareOpens -/
def selvedgelaw04_ShareOpens.Pure : Prop := ∀ (l0 : List S43) (a1 : Int), (fun xs : List S43 => xs.length * 24 ≤ 140737488351232 ∧ ∀ x ∈ xs, G43 x) l0 → (fun n : Int => (Lit.int .i64 n).wf = true) a1 → ∃ k, selvedgelaw04_ShareOpens.f k l0 a1 = some true
end Go.Proofs.Ytokkkeepifpbpaa.PShareOpens
