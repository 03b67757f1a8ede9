-- written by a program of this session (pp.py)
import Derived.Test.YtiknkkkfkifahaaPPaperOffx3
import Derived.Test.YtiknkkkfkifahaaOpu
namespace Go.Proofs.Ytiknkkkfkifahaa.PPaperOff
open Go.RowKit Go.Proofs.YtiknkkkfkifahaaW.PrintWords Go.Proofs.YtiknkkkfkifahaaW.PrintLast
set_option linter.unusedVariables false
set_option maxRecDepth 100000
instance : Inhabited S60 := ⟨z60⟩
def G60 (x : S60) : Prop := (fun s : ByteArray => s.size ≤ 140737488351232) x.f0 ∧ (fun s : ByteArray => s.size ≤ 140737488351232) x.f1 ∧ (fun n : Int => (Lit.int .i64 n).wf = true) x.f2 ∧ (fun _ : Bool => True) x.f3
def B60 (x : S60) : Nat := (fun s : ByteArray => s.size + 1) x.f0 + (fun s : ByteArray => s.size + 1) x.f1 + (fun _ : Int => 1) x.f2 + (fun _ : Bool => 1) x.f3 + 1
theorem o60 : Opn.Opu Try.prog 60 k60 G60 B60 :=
  (Opn.Opu.struct (P := Try.prog) (t := 60) Try.underlying60 (by kernel_rfl) (by kernel_rfl) (by kernel_rfl) (by kernel_rfl) (Opn.Squ.cons (Opn.Opu.string (P := Try.prog) (t := 9) (by kernel_rfl) (by kernel_rfl)) (Opn.Squ.cons (Opn.Opu.string (P := Try.prog) (t := 9) (by kernel_rfl) (by kernel_rfl)) (Opn.Squ.cons (Opn.Opu.int (P := Try.prog) (t := 3) (k := .i64) (by kernel_rfl) (by kernel_rfl)) (Opn.Squ.one (Opn.Opu.bool (P := Try.prog) (t := 4) (by kernel_rfl) (by kernel_rfl)))))) (fun x : S60 => (x.f0, x.f1, x.f2, x.f3)) (fun p => ⟨p.1, p.2.1, p.2.2.1, p.2.2.2⟩) (fun _ => rfl)).weaken (fun _ h => h) (fun x => by unfold B60; simp only []; omega)
/-- THE ONE PURE STATEMENT of selvedgelaw17_PaperOff -/
def selvedgelaw17_PaperOff.Pure : Prop := ∀ (x0 : S60) (a1 : ByteArray) (a2 : Int), G60 x0 → (fun s : ByteArray => s.size ≤ 140737488351232) a1 → (fun n : Int => (Lit.int .i64 n).wf = true) a2 → B60 x0 + (fun s : ByteArray => s.size + 1) a1 + (fun _ : Int => 1) a2 ≤ 1048576 → ∃ k, selvedgelaw17_PaperOff.f k x0.f0 x0.f1 x0.f2 x0.f3 a1 a2 = some true
end Go.Proofs.Ytiknkkkfkifahaa.PPaperOff
