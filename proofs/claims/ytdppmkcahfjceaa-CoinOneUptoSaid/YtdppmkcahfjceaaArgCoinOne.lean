-- written by a program of this session (pp.py)
import Derived.Test.YtdppmkcahfjceaaPCoinOnex6
import Derived.Test.YtdppmkcahfjceaaVCoinOneOpu
namespace Go.Proofs.Ytdppmkcahfjceaa.PCoinOne
open Go.RowKit Go.Proofs.YtdppmkcahfjceaaW.PrintWords Go.Proofs.YtdppmkcahfjceaaW.PrintLast
set_option linter.unusedVariables false
set_option maxRecDepth 100000
structure S63 where
  f0 : ByteArray
  f1 : Int
  f2 : Int
  f3 : Int
def z63 : S63 := ⟨ByteArray.empty, 0, 0, 0⟩
def k63 : Kd S63 := Kd.iso (Kd.pair Kd.string (Kd.pair (Kd.int .i64) (Kd.pair (Kd.int .i64) (Kd.int .u64)))) (fun x : S63 => (x.f0, x.f1, x.f2, x.f3))
theorem k63_open {w : World} {x : S63} {cs : List Value} (h : k63.K w x cs) : cs = [.string x.f0, .int .i64 x.f1, .int .i64 x.f2, .int .u64 x.f3] := by
  obtain ⟨_, _, rfl, rfl, ⟨_, _, rfl, rfl, ⟨_, _, rfl, rfl, rfl⟩⟩⟩ := h
  rfl
instance : Inhabited S63 := ⟨z63⟩
def G63 (x : S63) : Prop := (fun s : ByteArray => s.size ≤ 140737488351232) x.f0 ∧ (fun n : Int => (Lit.int .i64 n).wf = true) x.f1 ∧ (fun n : Int => (Lit.int .i64 n).wf = true) x.f2 ∧ (fun n : Int => (Lit.int .u64 n).wf = true) x.f3
def B63 (x : S63) : Nat := (fun s : ByteArray => s.size + 1) x.f0 + (fun _ : Int => 1) x.f1 + (fun _ : Int => 1) x.f2 + (fun _ : Int => 1) x.f3 + 1
theorem o63 : Opn.Opu Try.prog 63 k63 G63 B63 :=
  (Opn.Opu.struct (P := Try.prog) (t := 63) Try.underlying63 (by kernel_rfl) (by kernel_rfl) (by kernel_rfl) (by kernel_rfl) (Opn.Squ.cons (Opn.Opu.string (P := Try.prog) (t := 9) (by kernel_rfl) (by kernel_rfl)) (Opn.Squ.cons (Opn.Opu.int (P := Try.prog) (t := 3) (k := .i64) (by kernel_rfl) (by kernel_rfl)) (Opn.Squ.cons (Opn.Opu.int (P := Try.prog) (t := 3) (k := .i64) (by kernel_rfl) (by kernel_rfl)) (Opn.Squ.one (Opn.Opu.int (P := Try.prog) (t := 55) (k := .u64) (by kernel_rfl) (by kernel_rfl)))))) (fun x : S63 => (x.f0, x.f1, x.f2, x.f3)) (fun p => ⟨p.1, p.2.1, p.2.2.1, p.2.2.2⟩) (fun _ => rfl)).weaken (fun _ h => h) (fun x => by unfold B63; simp only []; omega)
/-- THE ONE PURE STATEMENT of selvedgelaw12_CoinOne -/
def selvedgelaw12_CoinOne.Pure : Prop := ∀ (x0 : S63), G63 x0 → B63 x0 ≤ 1048576 → ∃ k, selvedgelaw12_CoinOne.f k x0.f0 x0.f1 x0.f2 x0.f3 = some true
end Go.Proofs.Ytdppmkcahfjceaa.PCoinOne
