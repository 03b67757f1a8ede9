import Derived.Test.YtcbfnmabckjijaaVOrderTurnsWWords
import Derived.Test.YtcbfnmabckjijaaVOrderTurnsWN
/- Trimmed by a program. By an AI agent. -/
namespace Go.Proofs.YtcbfnmabckjijaaW.PrintWords
open Go.RowKit
namespace Kd
theorem C_iso {α β : Type} {d : Kd α} {f : β → α} {w : World} {A : Option Addr} {n : Nat} {xs : List β} : (iso d f).C w A n xs ↔ d.C w A n (xs.map f) := by
 constructor
 ·
  rintro ⟨hl, hm, hn⟩
  refine ⟨by rw [List.length_map]; exact hl, hm, fun hp => ?_⟩
  obtain ⟨ad, hA, hc⟩ := hn hp
  refine ⟨ad, hA, fun j p hj => ?_⟩
  rw [List.getElem?_map, Option.map_eq_some_iff] at hj
  obtain ⟨x, hx, rfl⟩ := hj
  exact hc j x hx
 ·
  rintro ⟨hl, hm, hn⟩
  rw [List.length_map] at hl
  refine ⟨hl, hm, fun hp => ?_⟩
  obtain ⟨ad, hA, hc⟩ := hn hp
  refine ⟨ad, hA, fun j p hj => ?_⟩
  exact hc j (f p) (by rw [List.getElem?_map, hj]; rfl)
end Kd
end Go.Proofs.YtcbfnmabckjijaaW.PrintWords
