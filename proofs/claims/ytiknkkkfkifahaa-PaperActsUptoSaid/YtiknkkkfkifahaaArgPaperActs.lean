-- written by a program of this session (pp.py)
import Derived.Test.YtiknkkkfkifahaaPPaperActsx6
import Derived.Test.YtiknkkkfkifahaaOpu
namespace Go.Proofs.Ytiknkkkfkifahaa.PPaperActs
open Go.RowKit Go.Proofs.YtiknkkkfkifahaaW.PrintWords Go.Proofs.YtiknkkkfkifahaaW.PrintLast
set_option linter.unusedVariables false
set_option maxRecDepth 100000
instance : Inhabited S60 := ⟨z60⟩
def G60 (x : S60) : Prop := (fun s : ByteArray => s.size ≤ 140737488351232) x.f0 ∧ (fun s : ByteArray => s.size ≤ 140737488351232) x.f1 ∧ (fun n : Int => (Lit.int .i64 n).wf = true) x.f2 ∧ (fun _ : Bool => True) x.f3
def B60 (x : S60) : Nat := (fun s : ByteArray => s.size + 1) x.f0 + (fun s : ByteArray => s.size + 1) x.f1 + (fun _ : Int => 1) x.f2 + (fun _ : Bool => 1) x.f3 + 1
theorem o60 : Opn.Opu Try.prog 60 k60 G60 B60 :=
  (Opn.Opu.struct (P := Try.prog) (t := 60) Try.underlying60 (by kernel_rfl) (by kernel_rfl) (by kernel_rfl) (by kernel_rfl) (Opn.Squ.cons (Opn.Opu.string (P := Try.prog) (t := 9) (by kernel_rfl) (by kernel_rfl)) (Opn.Squ.cons (Opn.Opu.string (P := Try.prog) (t := 9) (by kernel_rfl) (by kernel_rfl)) (Opn.Squ.cons (Opn.Opu.int (P := Try.prog) (t := 3) (k := .i64) (by kernel_rfl) (by kernel_rfl)) (Opn.Squ.one (Opn.Opu.bool (P := Try.prog) (t := 4) (by kernel_rfl) (by kernel_rfl)))))) (fun x : S60 => (x.f0, x.f1, x.f2, x.f3)) (fun p => ⟨p.1, p.2.1, p.2.2.1, p.2.2.2⟩) (fun _ => rfl)).weaken (fun _ h => h) (fun x => by unfold B60; simp only []; omega)
structure S69 where
  f0 : S60
  f1 : ByteArray
  f2 : Int
  f3 : Int
def z69 : S69 := ⟨z60, ByteArray.empty, 0, 0⟩
def k69 : Kd S69 := Kd.iso (Kd.pair k60 (Kd.pair Kd.string (Kd.pair (Kd.int .i64) (Kd.int .i64)))) (fun x : S69 => (x.f0, x.f1, x.f2, x.f3))
theorem k69_open {w : World} {x : S69} {cs : List Value} (h : k69.K w x cs) : cs = [.string x.f0.f0, .string x.f0.f1, .int .i64 x.f0.f2, .bool x.f0.f3, .string x.f1, .int .i64 x.f2, .int .i64 x.f3] := by
  obtain ⟨_, _, rfl, s0, ⟨_, _, rfl, rfl, ⟨_, _, rfl, rfl, rfl⟩⟩⟩ := h
  obtain rfl := k60_open s0
  rfl
instance : Inhabited S69 := ⟨z69⟩
def G69 (x : S69) : Prop := G60 x.f0 ∧ (fun s : ByteArray => s.size ≤ 140737488351232) x.f1 ∧ (fun n : Int => (Lit.int .i64 n).wf = true) x.f2 ∧ (fun n : Int => (Lit.int .i64 n).wf = true) x.f3
def B69 (x : S69) : Nat := B60 x.f0 + (fun s : ByteArray => s.size + 1) x.f1 + (fun _ : Int => 1) x.f2 + (fun _ : Int => 1) x.f3 + 1
theorem o69 : Opn.Opu Try.prog 69 k69 G69 B69 :=
  (Opn.Opu.struct (P := Try.prog) (t := 69) Try.underlying69 (by kernel_rfl) (by kernel_rfl) (by kernel_rfl) (by kernel_rfl) (Opn.Squ.cons o60 (Opn.Squ.cons (Opn.Opu.string (P := Try.prog) (t := 9) (by kernel_rfl) (by kernel_rfl)) (Opn.Squ.cons (Opn.Opu.int (P := Try.prog) (t := 3) (k := .i64) (by kernel_rfl) (by kernel_rfl)) (Opn.Squ.one (Opn.Opu.int (P := Try.prog) (t := 3) (k := .i64) (by kernel_rfl) (by kernel_rfl)))))) (fun x : S69 => (x.f0, x.f1, x.f2, x.f3)) (fun p => ⟨p.1, p.2.1, p.2.2.1, p.2.2.2⟩) (fun _ => rfl)).weaken (fun _ h => h) (fun x => by unfold B69; simp only []; omega)
/-- THE ONE PURE STATEMENT of selvedgelaw17_PaperActs -/
def selvedgelaw17_PaperActs.Pure : Prop := ∀ (x0 : S69), G69 x0 → B69 x0 ≤ 1048576 → ∃ k, selvedgelaw17_PaperActs.f k x0.f0.f0 x0.f0.f1 x0.f0.f2 x0.f0.f3 x0.f1 x0.f2 x0.f3 = some true
end Go.Proofs.Ytiknkkkfkifahaa.PPaperActs
