import Derived.Test.YtcbfnmabckjijaaWWords
import Derived.Test.YtcbfnmabckjijaaWN
/-
  Kinds: what the print's words lack. By an AI agent.
-/
namespace Go.Proofs.YtcbfnmabckjijaaW.PrintWords
open Go.RowKit
namespace Kd
/-- A row of one's own, told by another kind with the same cells. -/
theorem R_iso {α β : Type} {d : Kd α} {f : β → α} {e : Nat} {w : World} {base : Nat} {ok : Nat → Prop} {v : Value} {xs : List β} (h : d.R e w base ok v (xs.map f)) : (iso d f).R e w base ok v xs := by
  obtain ⟨h0, inner, ho, hr⟩ := h
  rw [List.length_map] at ho
  refine ⟨h0, inner, ho, by have := hr.1; rw [List.length_map] at this; exact this, fun j p hj => ?_⟩
  exact hr.2 j (f p) (by rw [List.getElem?_map, hj]; rfl)
theorem C_iso {α β : Type} {d : Kd α} {f : β → α} {w : World} {A : Option Addr} {n : Nat} {xs : List β} : (iso d f).C w A n xs ↔ d.C w A n (xs.map f) := by
  constructor
  · rintro ⟨hl, hm, hn⟩
    refine ⟨by rw [List.length_map]; exact hl, hm, fun hp => ?_⟩
    obtain ⟨ad, hA, hc⟩ := hn hp
    refine ⟨ad, hA, fun j p hj => ?_⟩
    rw [List.getElem?_map, Option.map_eq_some_iff] at hj
    obtain ⟨x, hx, rfl⟩ := hj
    exact hc j x hx
  · rintro ⟨hl, hm, hn⟩
    rw [List.length_map] at hl
    refine ⟨hl, hm, fun hp => ?_⟩
    obtain ⟨ad, hA, hc⟩ := hn hp
    refine ⟨ad, hA, fun j p hj => ?_⟩
    exact hc j (f p) (by rw [List.getElem?_map, hj]; rfl)
end Kd
end Go.Proofs.YtcbfnmabckjijaaW.PrintWords
