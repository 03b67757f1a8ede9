import Derived.Test.YtefdokolbdnjnaaMx
import Derived.DeepKeys
import Derived.ChangeKeysEq
import Derived.Laws.StructEq
/-
  A row of words is equal to itself: '==' of arrays. By an AI agent.
-/
namespace Go.Proofs.Ytefdokolbdnjnaa.Sa
open Go.Proofs.Ytefdokolbdnjnaa.Sm
open Go.RowKit Go.Proofs.YtefdokolbdnjnaaW.PrintWords Go.Proofs.YtefdokolbdnjnaaW.PrintLast Go.Proofs.YtefdokolbdnjnaaW.PrintMore

theorem eqItems_self {P : Program} {e : TypeId} (he : P.plainKey e = true) (hu : P.underlying e = some (.int .u32)) (d : Nat) (l : List Int) (w : World) : ∀ is : List Nat, (∀ i ∈ is, i < l.length) → (Op.eqItems (d + 1) e 1 (cellsU l) (cellsU l) is).run P w = .ok true w
  | [], _ => by simp [Op.eqItems]
  | i :: is, h => by
    have hi := h i (by simp)
    have hp := run_part_plain (w := w) he (xs := cellsU l) (off := i * 1) (v := .int .u32 (l.getD i 0)) (by rw [Nat.mul_one]; exact cellsU_get l i hi)
    have ih := eqItems_self he hu d l w is (fun j hj => h j (List.mem_cons_of_mem _ hj))
    simp only [Op.eqItems, Sem.run_bind, hp, Result.andThen_ok, run_equalIn_int w d e _ _ _ _ hu]
    simpa using ih
theorem eq_row {P : Program} {t e : TypeId} {n : Nat} (hut : P.underlying t = some (.array n e)) (hs : P.cellsOf e = 1) (he : P.plainKey e = true) (hu : P.underlying e = some (.int .u32)) (l : List Int) (hl : l.length = n) (w : World) : (Op.equalIn 10000 t (.agg (cellsU l)) (.agg (cellsU l))).run P w = .ok true w := by
  obtain ⟨i, hi⟩ := info_of_underlying hu
  show (Op.equalIn (9998 + 1 + 1) t (.agg (cellsU l)) (.agg (cellsU l))).run P w = .ok true w
  rw [run_equalIn_array w (9998 + 1) (cellsU l) (cellsU l) hut hi, hs]
  exact eqItems_self he hu 9998 l w _ (fun j hj => by have := List.mem_range.1 hj; omega)
end Go.Proofs.Ytefdokolbdnjnaa.Sa
