-- written by a program of this session (pp.py)
import Derived.Test.YtiknkkkfkifahaaPPaperTornx2
import Derived.Test.YtiknkkkfkifahaaOpu
namespace Go.Proofs.Ytiknkkkfkifahaa.PPaperTorn
open Go.RowKit Go.Proofs.YtiknkkkfkifahaaW.PrintWords Go.Proofs.YtiknkkkfkifahaaW.PrintLast
set_option linter.unusedVariables false
set_option maxRecDepth 100000
/-- THE ONE PURE STATEMENT of selvedgelaw17_PaperTorn -/
def selvedgelaw17_PaperTorn.Pure : Prop := ∀ (l0 : List ByteArray) (a1 : Int), (fun xs : List ByteArray => xs.length * 16 ≤ 140737488351232 ∧ ∀ x ∈ xs, (fun s : ByteArray => s.size ≤ 140737488351232) x) l0 → (fun n : Int => (Lit.int .i64 n).wf = true) a1 → (fun xs : List ByteArray => (xs.map (fun s : ByteArray => s.size + 1)).sum + 1) l0 + (fun _ : Int => 1) a1 ≤ 1048576 → ∃ k, selvedgelaw17_PaperTorn.f k l0 a1 = some true
end Go.Proofs.Ytiknkkkfkifahaa.PPaperTorn
