-- written by a program of this session (pp.py)
import Derived.Test.YtcbfnmabckjijaaPTuskStopsx17
import Derived.Test.YtcbfnmabckjijaaVTuskStopsOpu
namespace Go.Proofs.Ytcbfnmabckjijaa.PTuskStops
open Go.RowKit Go.Proofs.YtcbfnmabckjijaaW.PrintWords Go.Proofs.YtcbfnmabckjijaaW.PrintLast
set_option linter.unusedVariables false
set_option maxRecDepth 100000
instance : Inhabited S129 := ⟨z129⟩
def G129 (x : S129) : Prop := (fun n : Int => (Lit.int .i64 n).wf = true) x.f0 ∧ (fun n : Int => (Lit.int .i64 n).wf = true) x.f1 ∧ (fun xs : List ByteArray => xs.length * 16 ≤ 140737488351232 ∧ ∀ x ∈ xs, (fun s : ByteArray => s.size ≤ 140737488351232) x) x.f2
def B129 (x : S129) : Nat := (fun _ : Int => 1) x.f0 + (fun _ : Int => 1) x.f1 + (fun xs : List ByteArray => (xs.map (fun s : ByteArray => s.size + 1)).sum + 1) x.f2 + 1
theorem o129 : Opn.Opu Try.prog 129 k129 G129 B129 :=
 (Opn.Opu.struct (P := Try.prog) (t := 129) Try.underlying129 (by kernel_rfl) (by kernel_rfl) (by kernel_rfl) (by kernel_rfl) (Opn.Squ.cons (Opn.Opu.int (P := Try.prog) (t := 3) (k := .i64) (by kernel_rfl) (by kernel_rfl)) (Opn.Squ.cons (Opn.Opu.int (P := Try.prog) (t := 3) (k := .i64) (by kernel_rfl) (by kernel_rfl)) (Opn.Squ.one (Opn.Opu.slice (P := Try.prog) (t := 31) (e := 9) (bytes := 16) (by kernel_rfl) (by kernel_rfl) (by kernel_rfl) (Opn.Opu.string (P := Try.prog) (t := 9) (by kernel_rfl) (by kernel_rfl)))))) (fun x : S129 => (x.f0, x.f1, x.f2)) (fun p => ⟨p.1, p.2.1, p.2.2⟩) (fun _ => rfl)).weaken (fun _ h => h) (fun x => by unfold B129; simp only []; omega)
instance : Inhabited S33 := ⟨z33⟩
def G33 (x : S33) : Prop := (fun n : Int => (Lit.int .i64 n).wf = true) x.f0 ∧ (fun n : Int => (Lit.int .i64 n).wf = true) x.f1
def B33 (x : S33) : Nat := (fun _ : Int => 1) x.f0 + (fun _ : Int => 1) x.f1 + 1
theorem o33 : Opn.Opu Try.prog 33 k33 G33 B33 :=
 (Opn.Opu.struct (P := Try.prog) (t := 33) Try.underlying33 (by kernel_rfl) (by kernel_rfl) (by kernel_rfl) (by kernel_rfl) (Opn.Squ.cons (Opn.Opu.int (P := Try.prog) (t := 3) (k := .i64) (by kernel_rfl) (by kernel_rfl)) (Opn.Squ.one (Opn.Opu.int (P := Try.prog) (t := 3) (k := .i64) (by kernel_rfl) (by kernel_rfl)))) (fun x : S33 => (x.f0, x.f1)) (fun p => ⟨p.1, p.2⟩) (fun _ => rfl)).weaken (fun _ h => h) (fun x => by unfold B33; simp only []; omega)
instance : Inhabited S35 := ⟨z35⟩
def G35 (x : S35) : Prop := (fun n : Int => (Lit.int .i64 n).wf = true) x.f0 ∧ (fun n : Int => (Lit.int .i64 n).wf = true) x.f1 ∧ (fun xs : List S129 => xs.length * 40 ≤ 140737488351232 ∧ ∀ x ∈ xs, G129 x) x.f2 ∧ (fun xs : List ByteArray => xs.length * 16 ≤ 140737488351232 ∧ ∀ x ∈ xs, (fun s : ByteArray => s.size ≤ 140737488351232) x) x.f3 ∧ G33 x.f4
def B35 (x : S35) : Nat := (fun _ : Int => 1) x.f0 + (fun _ : Int => 1) x.f1 + (fun xs : List S129 => (xs.map B129).sum + 1) x.f2 + (fun xs : List ByteArray => (xs.map (fun s : ByteArray => s.size + 1)).sum + 1) x.f3 + B33 x.f4 + 1
theorem o35 : Opn.Opu Try.prog 35 k35 G35 B35 :=
 (Opn.Opu.struct (P := Try.prog) (t := 35) Try.underlying35 (by kernel_rfl) (by kernel_rfl) (by kernel_rfl) (by kernel_rfl) (Opn.Squ.cons (Opn.Opu.int (P := Try.prog) (t := 3) (k := .i64) (by kernel_rfl) (by kernel_rfl)) (Opn.Squ.cons (Opn.Opu.int (P := Try.prog) (t := 3) (k := .i64) (by kernel_rfl) (by kernel_rfl)) (Opn.Squ.cons (Opn.Opu.slice (P := Try.prog) (t := 30) (e := 129) (bytes := 40) (by kernel_rfl) (by kernel_rfl) (by kernel_rfl) o129) (Opn.Squ.cons (Opn.Opu.slice (P := Try.prog) (t := 31) (e := 9) (bytes := 16) (by kernel_rfl) (by kernel_rfl) (by kernel_rfl) (Opn.Opu.string (P := Try.prog) (t := 9) (by kernel_rfl) (by kernel_rfl))) (Opn.Squ.one o33))))) (fun x : S35 => (x.f0, x.f1, x.f2, x.f3, x.f4)) (fun p => ⟨p.1, p.2.1, p.2.2.1, p.2.2.2.1, p.2.2.2.2⟩) (fun _ => rfl)).weaken (fun _ h => h) (fun x => by unfold B35; simp only []; omega)
instance : Inhabited S37 := ⟨z37⟩
def G37 (x : S37) : Prop := (fun s : ByteArray => s.size ≤ 140737488351232) x.f0 ∧ G35 x.f1
def B37 (x : S37) : Nat := (fun s : ByteArray => s.size + 1) x.f0 + B35 x.f1 + 1
theorem o37 : Opn.Opu Try.prog 37 k37 G37 B37 :=
 (Opn.Opu.struct (P := Try.prog) (t := 37) Try.underlying37 (by kernel_rfl) (by kernel_rfl) (by kernel_rfl) (by kernel_rfl) (Opn.Squ.cons (Opn.Opu.string (P := Try.prog) (t := 9) (by kernel_rfl) (by kernel_rfl)) (Opn.Squ.one o35)) (fun x : S37 => (x.f0, x.f1)) (fun p => ⟨p.1, p.2⟩) (fun _ => rfl)).weaken (fun _ h => h) (fun x => by unfold B37; simp only []; omega)
instance : Inhabited S24 := ⟨z24⟩
def G24 (x : S24) : Prop := (fun n : Int => (Lit.int .i64 n).wf = true) x.f0 ∧ (fun n : Int => (Lit.int .i64 n).wf = true) x.f1 ∧ (fun xs : List S37 => xs.length * 96 ≤ 140737488351232 ∧ ∀ x ∈ xs, G37 x) x.f2
def B24 (x : S24) : Nat := (fun _ : Int => 1) x.f0 + (fun _ : Int => 1) x.f1 + (fun xs : List S37 => (xs.map B37).sum + 1) x.f2 + 1
theorem o24 : Opn.Opu Try.prog 24 k24 G24 B24 :=
 (Opn.Opu.struct (P := Try.prog) (t := 24) Try.underlying24 (by kernel_rfl) (by kernel_rfl) (by kernel_rfl) (by kernel_rfl) (Opn.Squ.cons (Opn.Opu.int (P := Try.prog) (t := 3) (k := .i64) (by kernel_rfl) (by kernel_rfl)) (Opn.Squ.cons (Opn.Opu.int (P := Try.prog) (t := 3) (k := .i64) (by kernel_rfl) (by kernel_rfl)) (Opn.Squ.one (Opn.Opu.slice (P := Try.prog) (t := 22) (e := 37) (bytes := 96) (by kernel_rfl) (by kernel_rfl) (by kernel_rfl) o37)))) (fun x : S24 => (x.f0, x.f1, x.f2)) (fun p => ⟨p.1, p.2.1, p.2.2⟩) (fun _ => rfl)).weaken (fun _ h => h) (fun x => by unfold B24; simp only []; omega)
def F3.Pure : Prop := ∀ (x0 : S24) (a1 : Int), G24 x0 → (fun n : Int => (Lit.int .i64 n).wf = true) a1 → B24 x0 + (fun _ : Int => 1) a1 ≤ 1048576 → ∃ k, F3.f k x0.f0 x0.f1 x0.f2 a1 = some true
end Go.Proofs.Ytcbfnmabckjijaa.PTuskStops
