-- written by a program of this session (pp.py)
import Derived.Test.YtefdokolbdnjnaaPCutAllx4
import Derived.Test.YtefdokolbdnjnaaVCutAllOpu
namespace Go.Proofs.Ytefdokolbdnjnaa.PCutAll
open Go.RowKit Go.Proofs.YtefdokolbdnjnaaW.PrintWords Go.Proofs.YtefdokolbdnjnaaW.PrintLast
set_option linter.unusedVariables false
set_option maxRecDepth 100000
instance : Inhabited S56 := ⟨z56⟩
def G56 (x : S56) : Prop := (fun xs : List ByteArray => xs.length * 16 ≤ 140737488351232 ∧ ∀ x ∈ xs, (fun s : ByteArray => s.size ≤ 140737488351232) x) x.f0 ∧ (fun _ : Bool => True) x.f1
def B56 (x : S56) : Nat := (fun xs : List ByteArray => (xs.map (fun s : ByteArray => s.size + 1)).sum + 1) x.f0 + (fun _ : Bool => 1) x.f1 + 1
theorem o56 : Opn.Opu Try.prog 56 k56 G56 B56 :=
  (Opn.Opu.struct (P := Try.prog) (t := 56) Try.underlying56 (by kernel_rfl) (by kernel_rfl) (by kernel_rfl) (by kernel_rfl) (Opn.Squ.cons (Opn.Opu.slice (P := Try.prog) (t := 37) (e := 9) (bytes := 16) (by kernel_rfl) (by kernel_rfl) (by kernel_rfl) (Opn.Opu.string (P := Try.prog) (t := 9) (by kernel_rfl) (by kernel_rfl))) (Opn.Squ.one (Opn.Opu.bool (P := Try.prog) (t := 4) (by kernel_rfl) (by kernel_rfl)))) (fun x : S56 => (x.f0, x.f1)) (fun p => ⟨p.1, p.2⟩) (fun _ => rfl)).weaken (fun _ h => h) (fun x => by unfold B56; simp only []; omega)
/-- THE ONE PURE STATEMENT of selvedgelaw15_CutAll -/
def selvedgelaw15_CutAll.Pure : Prop := ∀ (l0 : List S56), (fun xs : List S56 => xs.length * 32 ≤ 140737488351232 ∧ ∀ x ∈ xs, G56 x) l0 → (fun xs : List S56 => (xs.map B56).sum + 1) l0 ≤ 1048576 → ∃ k, selvedgelaw15_CutAll.f k l0 = some true
end Go.Proofs.Ytefdokolbdnjnaa.PCutAll
