-- written by a program of this session (pp.py)
import Derived.Test.YtopijobdblfhoaaGreatPTuskChainsx27
import Derived.Test.YtopijobdblfhoaaGreatVTuskChainsOpu
set_option linter.unusedVariables false
namespace Go.Proofs.YtopijobdblfhoaaGreat.PTuskChains
open Go.RowKit Go.Proofs.YtopijobdblfhoaaGreatW.PrintWords Go.Proofs.YtopijobdblfhoaaGreatW.PrintLast
set_option maxRecDepth 100000
instance : Inhabited Qaz := ⟨z107⟩
def G107 (x : Qaz) : Prop := (fun n : Int => (Lit.int .i64 n).wf = true) x.f0 ∧ (fun n : Int => (Lit.int .i64 n).wf = true) x.f1 ∧ (fun xs : List ByteArray => xs.length * 16 ≤ 140737488351232 ∧ ∀ x ∈ xs, (fun s : ByteArray => s.size ≤ 140737488351232) x) x.f2
def B107 (x : Qaz) : Nat := (fun _ : Int => 1) x.f0 + (fun _ : Int => 1) x.f1 + (fun xs : List ByteArray => (xs.map (fun s : ByteArray => s.size + 1)).sum + 1) x.f2 + 1
theorem o107 : Opn.Opu Tryz.prog 107 Qbm G107 B107 :=
 (Opn.Opu.struct (P := Tryz.prog) (t := 107) Tryz.underlying107 (by kernel_rfl) (by kernel_rfl) (by kernel_rfl) (by kernel_rfl) (Opn.Squ.cons (Opn.Opu.int (P := Tryz.prog) (t := 3) (k := .i64) (by kernel_rfl) (by kernel_rfl)) (Opn.Squ.cons (Opn.Opu.int (P := Tryz.prog) (t := 3) (k := .i64) (by kernel_rfl) (by kernel_rfl)) (Opn.Squ.one (Opn.Opu.slice (P := Tryz.prog) (t := 26) (e := 9) (bytes := 16) (by kernel_rfl) (by kernel_rfl) (by kernel_rfl) (Opn.Opu.string (P := Tryz.prog) (t := 9) (by kernel_rfl) (by kernel_rfl)))))) (fun x : Qaz => (x.f0, x.f1, x.f2)) (fun p => ⟨p.1, p.2.1, p.2.2⟩) (fun _ => rfl)).weaken (fun _ h => h) (fun x => by unfold B107; simp only []; omega)
instance : Inhabited S28 := ⟨z28⟩
def G28 (x : S28) : Prop := (fun n : Int => (Lit.int .i64 n).wf = true) x.f0 ∧ (fun n : Int => (Lit.int .i64 n).wf = true) x.f1
def B28 (x : S28) : Nat := (fun _ : Int => 1) x.f0 + (fun _ : Int => 1) x.f1 + 1
theorem o28 : Opn.Opu Tryz.prog 28 k28 G28 B28 :=
 (Opn.Opu.struct (P := Tryz.prog) (t := 28) Tryz.underlying28 (by kernel_rfl) (by kernel_rfl) (by kernel_rfl) (by kernel_rfl) (Opn.Squ.cons (Opn.Opu.int (P := Tryz.prog) (t := 3) (k := .i64) (by kernel_rfl) (by kernel_rfl)) (Opn.Squ.one (Opn.Opu.int (P := Tryz.prog) (t := 3) (k := .i64) (by kernel_rfl) (by kernel_rfl)))) (fun x : S28 => (x.f0, x.f1)) (fun p => ⟨p.1, p.2⟩) (fun _ => rfl)).weaken (fun _ h => h) (fun x => by unfold B28; simp only []; omega)
instance : Inhabited S30 := ⟨z30⟩
def G30 (x : S30) : Prop := (fun n : Int => (Lit.int .i64 n).wf = true) x.f0 ∧ (fun n : Int => (Lit.int .i64 n).wf = true) x.f1 ∧ (fun xs : List Qaz => xs.length * 40 ≤ 140737488351232 ∧ ∀ x ∈ xs, G107 x) x.f2 ∧ (fun xs : List ByteArray => xs.length * 16 ≤ 140737488351232 ∧ ∀ x ∈ xs, (fun s : ByteArray => s.size ≤ 140737488351232) x) x.f3 ∧ G28 x.f4
def B30 (x : S30) : Nat := (fun _ : Int => 1) x.f0 + (fun _ : Int => 1) x.f1 + (fun xs : List Qaz => (xs.map B107).sum + 1) x.f2 + (fun xs : List ByteArray => (xs.map (fun s : ByteArray => s.size + 1)).sum + 1) x.f3 + B28 x.f4 + 1
theorem o30 : Opn.Opu Tryz.prog 30 k30 G30 B30 :=
 (Opn.Opu.struct (P := Tryz.prog) (t := 30) Tryz.underlying30 (by kernel_rfl) (by kernel_rfl) (by kernel_rfl) (by kernel_rfl) (Opn.Squ.cons (Opn.Opu.int (P := Tryz.prog) (t := 3) (k := .i64) (by kernel_rfl) (by kernel_rfl)) (Opn.Squ.cons (Opn.Opu.int (P := Tryz.prog) (t := 3) (k := .i64) (by kernel_rfl) (by kernel_rfl)) (Opn.Squ.cons (Opn.Opu.slice (P := Tryz.prog) (t := 25) (e := 107) (bytes := 40) (by kernel_rfl) (by kernel_rfl) (by kernel_rfl) o107) (Opn.Squ.cons (Opn.Opu.slice (P := Tryz.prog) (t := 26) (e := 9) (bytes := 16) (by kernel_rfl) (by kernel_rfl) (by kernel_rfl) (Opn.Opu.string (P := Tryz.prog) (t := 9) (by kernel_rfl) (by kernel_rfl))) (Opn.Squ.one o28))))) (fun x : S30 => (x.f0, x.f1, x.f2, x.f3, x.f4)) (fun p => ⟨p.1, p.2.1, p.2.2.1, p.2.2.2.1, p.2.2.2.2⟩) (fun _ => rfl)).weaken (fun _ h => h) (fun x => by unfold B30; simp only []; omega)
instance : Inhabited S32 := ⟨z32⟩
def G32 (x : S32) : Prop := (fun s : ByteArray => s.size ≤ 140737488351232) x.f0 ∧ G30 x.f1
def B32 (x : S32) : Nat := (fun s : ByteArray => s.size + 1) x.f0 + B30 x.f1 + 1
theorem o32 : Opn.Opu Tryz.prog 32 k32 G32 B32 :=
 (Opn.Opu.struct (P := Tryz.prog) (t := 32) Tryz.underlying32 (by kernel_rfl) (by kernel_rfl) (by kernel_rfl) (by kernel_rfl) (Opn.Squ.cons (Opn.Opu.string (P := Tryz.prog) (t := 9) (by kernel_rfl) (by kernel_rfl)) (Opn.Squ.one o30)) (fun x : S32 => (x.f0, x.f1)) (fun p => ⟨p.1, p.2⟩) (fun _ => rfl)).weaken (fun _ h => h) (fun x => by unfold B32; simp only []; omega)
instance : Inhabited S24 := ⟨z24⟩
def G24 (x : S24) : Prop := (fun n : Int => (Lit.int .i64 n).wf = true) x.f0 ∧ (fun n : Int => (Lit.int .i64 n).wf = true) x.f1 ∧ (fun xs : List S32 => xs.length * 96 ≤ 140737488351232 ∧ ∀ x ∈ xs, G32 x) x.f2
def B24 (x : S24) : Nat := (fun _ : Int => 1) x.f0 + (fun _ : Int => 1) x.f1 + (fun xs : List S32 => (xs.map B32).sum + 1) x.f2 + 1
theorem o24 : Opn.Opu Tryz.prog 24 k24 G24 B24 :=
 (Opn.Opu.struct (P := Tryz.prog) (t := 24) Tryz.underlying24 (by kernel_rfl) (by kernel_rfl) (by kernel_rfl) (by kernel_rfl) (Opn.Squ.cons (Opn.Opu.int (P := Tryz.prog) (t := 3) (k := .i64) (by kernel_rfl) (by kernel_rfl)) (Opn.Squ.cons (Opn.Opu.int (P := Tryz.prog) (t := 3) (k := .i64) (by kernel_rfl) (by kernel_rfl)) (Opn.Squ.one (Opn.Opu.slice (P := Tryz.prog) (t := 22) (e := 32) (bytes := 96) (by kernel_rfl) (by kernel_rfl) (by kernel_rfl) o32)))) (fun x : S24 => (x.f0, x.f1, x.f2)) (fun p => ⟨p.1, p.2.1, p.2.2⟩) (fun _ => rfl)).weaken (fun _ h => h) (fun x => by unfold B24; simp only []; omega)
def Fy.Pure : Prop := ∀ (x0 : S24) (a1 : Int), G24 x0 → (fun n : Int => (Lit.int .i64 n).wf = true) a1 → B24 x0 + (fun _ : Int => 1) a1 ≤ 1048576 → ∃ k, Fy.f k x0.f0 x0.f1 x0.f2 a1 = some true
end Go.Proofs.YtopijobdblfhoaaGreat.PTuskChains
