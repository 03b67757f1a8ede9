-- written by a program of this session (pp.py)
import Derived.Test.YtiknkkkfkifahaaPPaperLastsx3
import Derived.Test.YtiknkkkfkifahaaOpu
namespace Go.Proofs.Ytiknkkkfkifahaa.PPaperLasts
open Go.RowKit Go.Proofs.YtiknkkkfkifahaaW.PrintWords Go.Proofs.YtiknkkkfkifahaaW.PrintLast
set_option linter.unusedVariables false
set_option maxRecDepth 100000
instance : Inhabited S76 := ⟨z76⟩
def G76 (x : S76) : Prop := (fun n : Int => (Lit.int .i64 n).wf = true) x.f0 ∧ (fun n : Int => (Lit.int .i64 n).wf = true) x.f1 ∧ (fun s : ByteArray => s.size ≤ 140737488351232) x.f2
def B76 (x : S76) : Nat := (fun _ : Int => 1) x.f0 + (fun _ : Int => 1) x.f1 + (fun s : ByteArray => s.size + 1) x.f2 + 1
theorem o76 : Opn.Opu Try.prog 76 k76 G76 B76 :=
  (Opn.Opu.struct (P := Try.prog) (t := 76) Try.underlying76 (by kernel_rfl) (by kernel_rfl) (by kernel_rfl) (by kernel_rfl) (Opn.Squ.cons (Opn.Opu.int (P := Try.prog) (t := 3) (k := .i64) (by kernel_rfl) (by kernel_rfl)) (Opn.Squ.cons (Opn.Opu.int (P := Try.prog) (t := 3) (k := .i64) (by kernel_rfl) (by kernel_rfl)) (Opn.Squ.one (Opn.Opu.string (P := Try.prog) (t := 9) (by kernel_rfl) (by kernel_rfl))))) (fun x : S76 => (x.f0, x.f1, x.f2)) (fun p => ⟨p.1, p.2.1, p.2.2⟩) (fun _ => rfl)).weaken (fun _ h => h) (fun x => by unfold B76; simp only []; omega)
/-- THE ONE PURE STATEMENT of selvedgelaw17_PaperLasts -/
def selvedgelaw17_PaperLasts.Pure : Prop := ∀ (l0 : List S76), (fun xs : List S76 => xs.length * 32 ≤ 140737488351232 ∧ ∀ x ∈ xs, G76 x) l0 → (fun xs : List S76 => (xs.map B76).sum + 1) l0 ≤ 1048576 → ∃ k, selvedgelaw17_PaperLasts.f k l0 = some true
end Go.Proofs.Ytiknkkkfkifahaa.PPaperLasts
