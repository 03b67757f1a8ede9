-- written by a program of this session (pp.py)
import Derived.Test.YtdppmkcahfjceaaPCoinDealsx4
import Derived.Test.YtdppmkcahfjceaaOpu
namespace Go.Proofs.Ytdppmkcahfjceaa.PCoinDeals
open Go.RowKit Go.Proofs.YtdppmkcahfjceaaW.PrintWords Go.Proofs.YtdppmkcahfjceaaW.PrintLast
set_option linter.unusedVariables false
set_option maxRecDepth 100000
structure S29 where
  f0 : ByteArray
  f1 : Int
  f2 : Int
  f3 : Int
def z29 : S29 := ⟨ByteArray.empty, 0, 0, 0⟩
def k29 : Kd S29 := Kd.iso (Kd.pair Kd.string (Kd.pair (Kd.int .i64) (Kd.pair (Kd.int .i64) (Kd.int .i64)))) (fun x : S29 => (x.f0, x.f1, x.f2, x.f3))
theorem k29_open {w : World} {x : S29} {cs : List Value} (h : k29.K w x cs) : cs = [.string x.f0, .int .i64 x.f1, .int .i64 x.f2, .int .i64 x.f3] := by
  obtain ⟨_, _, rfl, rfl, ⟨_, _, rfl, rfl, ⟨_, _, rfl, rfl, rfl⟩⟩⟩ := h
  rfl
instance : Inhabited S29 := ⟨z29⟩
def G29 (x : S29) : Prop := (fun s : ByteArray => s.size ≤ 140737488351232) x.f0 ∧ (fun n : Int => (Lit.int .i64 n).wf = true) x.f1 ∧ (fun n : Int => (Lit.int .i64 n).wf = true) x.f2 ∧ (fun n : Int => (Lit.int .i64 n).wf = true) x.f3
def B29 (x : S29) : Nat := (fun s : ByteArray => s.size + 1) x.f0 + (fun _ : Int => 1) x.f1 + (fun _ : Int => 1) x.f2 + (fun _ : Int => 1) x.f3 + 1
theorem o29 : Opn.Opu Try.prog 29 k29 G29 B29 :=
  (Opn.Opu.struct (P := Try.prog) (t := 29) Try.underlying29 (by kernel_rfl) (by kernel_rfl) (by kernel_rfl) (by kernel_rfl) (Opn.Squ.cons (Opn.Opu.string (P := Try.prog) (t := 9) (by kernel_rfl) (by kernel_rfl)) (Opn.Squ.cons (Opn.Opu.int (P := Try.prog) (t := 3) (k := .i64) (by kernel_rfl) (by kernel_rfl)) (Opn.Squ.cons (Opn.Opu.int (P := Try.prog) (t := 3) (k := .i64) (by kernel_rfl) (by kernel_rfl)) (Opn.Squ.one (Opn.Opu.int (P := Try.prog) (t := 3) (k := .i64) (by kernel_rfl) (by kernel_rfl)))))) (fun x : S29 => (x.f0, x.f1, x.f2, x.f3)) (fun p => ⟨p.1, p.2.1, p.2.2.1, p.2.2.2⟩) (fun _ => rfl)).weaken (fun _ h => h) (fun x => by unfold B29; simp only []; omega)
/-- THE ONE PURE STATEMENT of selvedgelaw12_CoinDeals -/
def selvedgelaw12_CoinDeals.Pure : Prop := ∀ (x0 : S29), G29 x0 → B29 x0 ≤ 1048576 → ∃ k, selvedgelaw12_CoinDeals.f k x0.f0 x0.f1 x0.f2 x0.f3 = some true
end Go.Proofs.Ytdppmkcahfjceaa.PCoinDeals
