import Derived.Test.YtdppmkcahfjceaaVCoinFitsWWords
import Derived.Test.YtdppmkcahfjceaaVCoinFitsWN
/- What this claim names of the words that its proofs lean on: gathered out of them by a program of this session (shake.py). By an AI agent. -/
/-
  Kinds: what the print's words lack. By an AI agent.
-/
namespace Go.Proofs.YtdppmkcahfjceaaW.PrintWords
open Go.RowKit
namespace Kd
/-- A row of one's own, told by another kind with the same cells. -/
theorem R_iso {α β : Type} {d : Kd α} {f : β → α} {e : Nat} {w : World} {base : Nat} {ok : Nat → Prop} {v : Value} {xs : List β} (h : d.R e w base ok v (xs.map f)) : (iso d f).R e w base ok v xs := by
  obtain ⟨h0, inner, ho, hr⟩ := h
  rw [List.length_map] at ho
  refine ⟨h0, inner, ho, by have := hr.1; rw [List.length_map] at this; exact this, fun j p hj => ?_⟩
  exact hr.2 j (f p) (by rw [List.getElem?_map, hj]; rfl)
end Kd
end Go.Proofs.YtdppmkcahfjceaaW.PrintWords

