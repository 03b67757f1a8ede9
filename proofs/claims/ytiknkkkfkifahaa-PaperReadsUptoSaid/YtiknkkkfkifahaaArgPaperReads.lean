-- written by a program of this session (pp.py)
import Derived.Test.YtiknkkkfkifahaaPPaperReadsx3
import Derived.Test.YtiknkkkfkifahaaOpu
namespace Go.Proofs.Ytiknkkkfkifahaa.PPaperReads
open Go.RowKit Go.Proofs.YtiknkkkfkifahaaW.PrintWords Go.Proofs.YtiknkkkfkifahaaW.PrintLast
set_option linter.unusedVariables false
set_option maxRecDepth 100000
/-- THE ONE PURE STATEMENT of selvedgelaw17_PaperReads -/
def selvedgelaw17_PaperReads.Pure : Prop := ∀ (a0 : ByteArray) (a1 : ByteArray), (fun s : ByteArray => s.size ≤ 140737488351232) a0 → (fun s : ByteArray => s.size ≤ 140737488351232) a1 → (fun s : ByteArray => s.size + 1) a0 + (fun s : ByteArray => s.size + 1) a1 ≤ 1048576 → ∃ k, selvedgelaw17_PaperReads.f k a0 a1 = some true
end Go.Proofs.Ytiknkkkfkifahaa.PPaperReads
