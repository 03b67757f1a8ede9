import Derived.Test.YtcbfnmabckjijaaVOrderTurnsDn
/- Trimmed by a program. By an AI agent. -/
namespace Go.Proofs.Ytcbfnmabckjijaa.Sa
open Go.Proofs.Ytcbfnmabckjijaa.Sm
theorem rowB_le (l : List ByteArray) : (rowB l).size ≤ sizes l + 9 := by
 have h1 := rowL_length l
 have h2 := numB_le l.length
 show (((numB l.length).data.toList ++ rowL l).toArray).size ≤ _
 rw [List.size_toArray, List.length_append]
 have : (numB l.length).data.toList.length = (numB l.length).size := by rw [Array.length_toList]; rfl
 omega
end Go.Proofs.Ytcbfnmabckjijaa.Sa
