-- written by a program of this session (pp.py)
import Derived.Test.YtdppmkcahfjceaaPCoinMorex4
import Derived.Test.YtdppmkcahfjceaaVCoinMoreOpu
namespace Go.Proofs.Ytdppmkcahfjceaa.PCoinMore
open Go.RowKit Go.Proofs.YtdppmkcahfjceaaW.PrintWords Go.Proofs.YtdppmkcahfjceaaW.PrintLast
set_option linter.unusedVariables false
set_option maxRecDepth 100000
structure S57 where
  f0 : ByteArray
  f1 : Int
  f2 : Int
  f3 : Int
def z57 : S57 := ⟨ByteArray.empty, 0, 0, 0⟩
def k57 : Kd S57 := Kd.iso (Kd.pair Kd.string (Kd.pair (Kd.int .i64) (Kd.pair (Kd.int .u64) (Kd.int .u64)))) (fun x : S57 => (x.f0, x.f1, x.f2, x.f3))
theorem k57_open {w : World} {x : S57} {cs : List Value} (h : k57.K w x cs) : cs = [.string x.f0, .int .i64 x.f1, .int .u64 x.f2, .int .u64 x.f3] := by
  obtain ⟨_, _, rfl, rfl, ⟨_, _, rfl, rfl, ⟨_, _, rfl, rfl, rfl⟩⟩⟩ := h
  rfl
instance : Inhabited S57 := ⟨z57⟩
def G57 (x : S57) : Prop := (fun s : ByteArray => s.size ≤ 140737488351232) x.f0 ∧ (fun n : Int => (Lit.int .i64 n).wf = true) x.f1 ∧ (fun n : Int => (Lit.int .u64 n).wf = true) x.f2 ∧ (fun n : Int => (Lit.int .u64 n).wf = true) x.f3
def B57 (x : S57) : Nat := (fun s : ByteArray => s.size + 1) x.f0 + (fun _ : Int => 1) x.f1 + (fun _ : Int => 1) x.f2 + (fun _ : Int => 1) x.f3 + 1
theorem o57 : Opn.Opu Try.prog 57 k57 G57 B57 :=
  (Opn.Opu.struct (P := Try.prog) (t := 57) Try.underlying57 (by kernel_rfl) (by kernel_rfl) (by kernel_rfl) (by kernel_rfl) (Opn.Squ.cons (Opn.Opu.string (P := Try.prog) (t := 9) (by kernel_rfl) (by kernel_rfl)) (Opn.Squ.cons (Opn.Opu.int (P := Try.prog) (t := 3) (k := .i64) (by kernel_rfl) (by kernel_rfl)) (Opn.Squ.cons (Opn.Opu.int (P := Try.prog) (t := 55) (k := .u64) (by kernel_rfl) (by kernel_rfl)) (Opn.Squ.one (Opn.Opu.int (P := Try.prog) (t := 55) (k := .u64) (by kernel_rfl) (by kernel_rfl)))))) (fun x : S57 => (x.f0, x.f1, x.f2, x.f3)) (fun p => ⟨p.1, p.2.1, p.2.2.1, p.2.2.2⟩) (fun _ => rfl)).weaken (fun _ h => h) (fun x => by unfold B57; simp only []; omega)
/-- THE ONE PURE STATEMENT of selvedgelaw12_CoinMore -/
def selvedgelaw12_CoinMore.Pure : Prop := ∀ (x0 : S57), G57 x0 → B57 x0 ≤ 1048576 → ∃ k, selvedgelaw12_CoinMore.f k x0.f0 x0.f1 x0.f2 x0.f3 = some true
end Go.Proofs.Ytdppmkcahfjceaa.PCoinMore
