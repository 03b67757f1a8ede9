-- written by a program of this session (pp.py)
import Derived.Test.YtefdokolbdnjnaaPCutTwox3
import Derived.Test.YtefdokolbdnjnaaVCutTwoOpu
namespace Go.Proofs.Ytefdokolbdnjnaa.PCutTwo
open Go.RowKit Go.Proofs.YtefdokolbdnjnaaW.PrintWords Go.Proofs.YtefdokolbdnjnaaW.PrintLast
set_option linter.unusedVariables false
set_option maxRecDepth 100000
instance : Inhabited S39 := ⟨z39⟩
def G39 (x : S39) : Prop := (fun n : Int => (Lit.int .i64 n).wf = true) x.f0 ∧ (fun s : ByteArray => s.size ≤ 140737488351232) x.f1 ∧ (fun xs : List ByteArray => xs.length * 16 ≤ 140737488351232 ∧ ∀ x ∈ xs, (fun s : ByteArray => s.size ≤ 140737488351232) x) x.f2
def B39 (x : S39) : Nat := (fun _ : Int => 1) x.f0 + (fun s : ByteArray => s.size + 1) x.f1 + (fun xs : List ByteArray => (xs.map (fun s : ByteArray => s.size + 1)).sum + 1) x.f2 + 1
theorem o39 : Opn.Opu Try.prog 39 k39 G39 B39 :=
  (Opn.Opu.struct (P := Try.prog) (t := 39) Try.underlying39 (by kernel_rfl) (by kernel_rfl) (by kernel_rfl) (by kernel_rfl) (Opn.Squ.cons (Opn.Opu.int (P := Try.prog) (t := 3) (k := .i64) (by kernel_rfl) (by kernel_rfl)) (Opn.Squ.cons (Opn.Opu.string (P := Try.prog) (t := 9) (by kernel_rfl) (by kernel_rfl)) (Opn.Squ.one (Opn.Opu.slice (P := Try.prog) (t := 37) (e := 9) (bytes := 16) (by kernel_rfl) (by kernel_rfl) (by kernel_rfl) (Opn.Opu.string (P := Try.prog) (t := 9) (by kernel_rfl) (by kernel_rfl)))))) (fun x : S39 => (x.f0, x.f1, x.f2)) (fun p => ⟨p.1, p.2.1, p.2.2⟩) (fun _ => rfl)).weaken (fun _ h => h) (fun x => by unfold B39; simp only []; omega)
/-- THE ONE PURE STATEMENT of selvedgelaw15_CutTwo -/
def selvedgelaw15_CutTwo.Pure : Prop := ∀ (x0 : S39) (l1 : List ByteArray) (l2 : List ByteArray), G39 x0 → (fun xs : List ByteArray => xs.length * 16 ≤ 140737488351232 ∧ ∀ x ∈ xs, (fun s : ByteArray => s.size ≤ 140737488351232) x) l1 → (fun xs : List ByteArray => xs.length * 16 ≤ 140737488351232 ∧ ∀ x ∈ xs, (fun s : ByteArray => s.size ≤ 140737488351232) x) l2 → B39 x0 + (fun xs : List ByteArray => (xs.map (fun s : ByteArray => s.size + 1)).sum + 1) l1 + (fun xs : List ByteArray => (xs.map (fun s : ByteArray => s.size + 1)).sum + 1) l2 ≤ 1048576 → ∃ k, selvedgelaw15_CutTwo.f k x0.f0 x0.f1 x0.f2 l1 l2 = some true
end Go.Proofs.Ytefdokolbdnjnaa.PCutTwo
