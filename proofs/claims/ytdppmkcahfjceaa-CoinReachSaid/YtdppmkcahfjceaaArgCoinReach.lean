-- written by a program of this session (pp.py)
import Derived.Test.YtdppmkcahfjceaaPCoinReachx1
import Derived.Test.YtdppmkcahfjceaaOpn
namespace Go.Proofs.Ytdppmkcahfjceaa.PCoinReach
open Go.RowKit Go.Proofs.YtdppmkcahfjceaaW.PrintWords Go.Proofs.YtdppmkcahfjceaaW.PrintLast
set_option linter.unusedVariables false
set_option maxRecDepth 100000
instance : Inhabited S23 := ⟨z23⟩
def G23 (x : S23) : Prop := (fun n : Int => (Lit.int .i64 n).wf = true) x.f0 ∧ (fun n : Int => (Lit.int .i64 n).wf = true) x.f1
theorem o23 : Opn.Opn Try.prog 23 k23 G23 :=
  (Opn.Opn.struct (P := Try.prog) (t := 23) Try.underlying23 (by kernel_rfl) (by kernel_rfl) (by kernel_rfl) (by kernel_rfl) (Opn.Seq.cons (Opn.Opn.int (P := Try.prog) (t := 3) (k := .i64) (by kernel_rfl) (by kernel_rfl)) (Opn.Seq.one (Opn.Opn.int (P := Try.prog) (t := 3) (k := .i64) (by kernel_rfl) (by kernel_rfl)))) (fun x : S23 => (x.f0, x.f1)) (fun p => ⟨p.1, p.2⟩) (fun _ => rfl)).weaken (fun _ h => h)
/-- THE ONE PURE STATEMENT of selvedgelaw12_CoinReach -/
def selvedgelaw12_CoinReach.Pure : Prop := ∀ (a0 : Int) (x1 : S23) (a2 : Int), (fun n : Int => (Lit.int .i64 n).wf = true) a0 → G23 x1 → (fun n : Int => (Lit.int .i64 n).wf = true) a2 → ∃ k, selvedgelaw12_CoinReach.f k a0 x1.f0 x1.f1 a2 = some true
end Go.Proofs.Ytdppmkcahfjceaa.PCoinReach
