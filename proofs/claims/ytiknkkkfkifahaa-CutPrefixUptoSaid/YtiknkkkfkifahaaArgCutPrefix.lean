-- written by a program of this session (pp.py)
import Derived.Test.YtiknkkkfkifahaaPCutPrefixx4
import Derived.Test.YtiknkkkfkifahaaOpu
namespace Go.Proofs.Ytiknkkkfkifahaa.PCutPrefix
open Go.RowKit Go.Proofs.YtiknkkkfkifahaaW.PrintWords Go.Proofs.YtiknkkkfkifahaaW.PrintLast
set_option linter.unusedVariables false
set_option maxRecDepth 100000
instance : Inhabited S42 := ⟨z42⟩
def G42 (x : S42) : Prop := (fun xs : List ByteArray => xs.length * 16 ≤ 140737488351232 ∧ ∀ x ∈ xs, (fun s : ByteArray => s.size ≤ 140737488351232) x) x.f0 ∧ (fun _ : Bool => True) x.f1
def B42 (x : S42) : Nat := (fun xs : List ByteArray => (xs.map (fun s : ByteArray => s.size + 1)).sum + 1) x.f0 + (fun _ : Bool => 1) x.f1 + 1
theorem o42 : Opn.Opu Try.prog 42 k42 G42 B42 :=
  (Opn.Opu.struct (P := Try.prog) (t := 42) Try.underlying42 (by kernel_rfl) (by kernel_rfl) (by kernel_rfl) (by kernel_rfl) (Opn.Squ.cons (Opn.Opu.slice (P := Try.prog) (t := 22) (e := 9) (bytes := 16) (by kernel_rfl) (by kernel_rfl) (by kernel_rfl) (Opn.Opu.string (P := Try.prog) (t := 9) (by kernel_rfl) (by kernel_rfl))) (Opn.Squ.one (Opn.Opu.bool (P := Try.prog) (t := 4) (by kernel_rfl) (by kernel_rfl)))) (fun x : S42 => (x.f0, x.f1)) (fun p => ⟨p.1, p.2⟩) (fun _ => rfl)).weaken (fun _ h => h) (fun x => by unfold B42; simp only []; omega)
/-- THE ONE PURE STATEMENT of selvedgelaw15_CutPrefix -/
def selvedgelaw15_CutPrefix.Pure : Prop := ∀ (l0 : List S42) (l1 : List S42), (fun xs : List S42 => xs.length * 32 ≤ 140737488351232 ∧ ∀ x ∈ xs, G42 x) l0 → (fun xs : List S42 => xs.length * 32 ≤ 140737488351232 ∧ ∀ x ∈ xs, G42 x) l1 → (fun xs : List S42 => (xs.map B42).sum + 1) l0 + (fun xs : List S42 => (xs.map B42).sum + 1) l1 ≤ 1048576 → ∃ k, selvedgelaw15_CutPrefix.f k l0 l1 = some true
end Go.Proofs.Ytiknkkkfkifahaa.PCutPrefix
