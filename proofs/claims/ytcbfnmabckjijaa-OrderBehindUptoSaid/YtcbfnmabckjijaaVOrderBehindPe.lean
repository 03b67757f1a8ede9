import Derived.Test.YtcbfnmabckjijaaVOrderBehindWWords
import Derived.Test.YtcbfnmabckjijaaVOrderBehindWLast
import Derived.Test.YtcbfnmabckjijaaVOrderBehindWN
import Derived.Test.YtcbfnmabckjijaaVOrderBehindWMore
/- Trimmed by a program. By an AI agent. -/
namespace Go.Proofs.YtcbfnmabckjijaaW.PrintWords
open Go.RowKit
class Peel (W W' : World) : Prop where
 out : Below W.heap.size W W'
instance Peel.refl (W : World) : Peel W W := ⟨Below.refl _ _⟩
instance Peel.alloc (W W' : World) (o : Obj) [h : Peel W W'] : Peel W (W'.alloc o) := ⟨h.out.alloc h.out.size o⟩
instance Peel.drewN (W W' : World) (n : Nat) [h : Peel W W'] : Peel W (W'.drewN n) := ⟨pw_below_drewN h.out n⟩
instance Peel.drew (W W' : World) [h : Peel W W'] : Peel W W'.drew := ⟨below_drew1 h.out⟩
section
variable {α : Type} {d : Kd α} {e b : Nat} {W W' : World} {ok : Nat → Prop} {v : Value} {xs : List α} [h : Peel W W']
theorem Kd.pN (x : d.N e W b ok v xs) : d.N e W' b ok v xs := Kd.N_below x h.out
theorem Kd.pR (x : d.R e W b ok v xs) : d.R e W' b ok v xs := Kd.R_below x h.out
theorem Kd.pV (x : Kd.V d e W b ok v xs) : Kd.V d e W' b ok v xs := by
 obtain ⟨A, c, rfl, hc, hF⟩ := x
 exact ⟨A, c, rfl, hc, Kd.F_below hF h.out⟩
theorem pB {g : Nat} {o : Obj} (x : W.heap[g]? = some o) : W'.heap[g]? = some o := blk_below x h.out
end
end Go.Proofs.YtcbfnmabckjijaaW.PrintWords
