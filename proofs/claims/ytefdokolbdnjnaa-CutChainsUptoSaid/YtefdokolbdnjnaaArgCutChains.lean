-- written by a program of this session (pp.py)
import Derived.Test.YtefdokolbdnjnaaPCutChainsx2
import Derived.Test.YtefdokolbdnjnaaOpu
namespace Go.Proofs.Ytefdokolbdnjnaa.PCutChains
open Go.RowKit Go.Proofs.YtefdokolbdnjnaaW.PrintWords Go.Proofs.YtefdokolbdnjnaaW.PrintLast
set_option linter.unusedVariables false
set_option maxRecDepth 100000
instance : Inhabited S40 := ⟨z40⟩
def G40 (x : S40) : Prop := (fun n : Int => (Lit.int .i64 n).wf = true) x.f0 ∧ (fun s : ByteArray => s.size ≤ 140737488351232) x.f1 ∧ (fun xs : List ByteArray => xs.length * 16 ≤ 140737488351232 ∧ ∀ x ∈ xs, (fun s : ByteArray => s.size ≤ 140737488351232) x) x.f2
def B40 (x : S40) : Nat := (fun _ : Int => 1) x.f0 + (fun s : ByteArray => s.size + 1) x.f1 + (fun xs : List ByteArray => (xs.map (fun s : ByteArray => s.size + 1)).sum + 1) x.f2 + 1
theorem o40 : Opn.Opu Try.prog 40 k40 G40 B40 :=
  (Opn.Opu.struct (P := Try.prog) (t := 40) Try.underlying40 (by kernel_rfl) (by kernel_rfl) (by kernel_rfl) (by kernel_rfl) (Opn.Squ.cons (Opn.Opu.int (P := Try.prog) (t := 3) (k := .i64) (by kernel_rfl) (by kernel_rfl)) (Opn.Squ.cons (Opn.Opu.string (P := Try.prog) (t := 9) (by kernel_rfl) (by kernel_rfl)) (Opn.Squ.one (Opn.Opu.slice (P := Try.prog) (t := 37) (e := 9) (bytes := 16) (by kernel_rfl) (by kernel_rfl) (by kernel_rfl) (Opn.Opu.string (P := Try.prog) (t := 9) (by kernel_rfl) (by kernel_rfl)))))) (fun x : S40 => (x.f0, x.f1, x.f2)) (fun p => ⟨p.1, p.2.1, p.2.2⟩) (fun _ => rfl)).weaken (fun _ h => h) (fun x => by unfold B40; simp only []; omega)
/-- THE ONE PURE STATEMENT of selvedgelaw15_CutChains -/
def selvedgelaw15_CutChains.Pure : Prop := ∀ (l0 : List S40) (a1 : Int) (a2 : ByteArray), (fun xs : List S40 => xs.length * 48 ≤ 140737488351232 ∧ ∀ x ∈ xs, G40 x) l0 → (fun n : Int => (Lit.int .i64 n).wf = true) a1 → (fun s : ByteArray => s.size ≤ 140737488351232) a2 → (fun xs : List S40 => (xs.map B40).sum + 1) l0 + (fun _ : Int => 1) a1 + (fun s : ByteArray => s.size + 1) a2 ≤ 1048576 → ∃ k, selvedgelaw15_CutChains.f k l0 a1 a2 = some true
end Go.Proofs.Ytefdokolbdnjnaa.PCutChains
