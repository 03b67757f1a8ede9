import Derived.Test.YtefdokolbdnjnaaSq
/-
  The words of a digest, told by its bytes. No program. By an AI agent.
-/
namespace Go.Proofs.Ytefdokolbdnjnaa.Sm
open Go Go.RowKit

theorem flat4_get : ∀ (l : List Int) (i r : Nat), i < l.length → r < 4 → (l.flatMap bytes4)[4 * i + r]? = (bytes4 (l.getD i 0))[r]?
  | [], i, r, h, _ => by simp at h
  | x :: l, 0, r, h, hr => by
    rw [List.flatMap_cons, List.getElem?_append_left (by simp [bytes4]; omega)]
    simp
  | x :: l, i + 1, r, h, hr => by
    have hl : (bytes4 x).length = 4 := rfl
    rw [List.flatMap_cons, List.getElem?_append_right (by omega), hl, show 4 * (i + 1) + r - 4 = 4 * i + r from by omega, flat4_get l i r (by simpa using h) hr]
    simp
theorem byt_flat (l : List Int) (i r : Nat) (h : i < l.length) (hr : r < 4) : byt ⟨(l.flatMap bytes4).toArray⟩ (4 * i + r) = (((bytes4 (l.getD i 0)).getD r 0).toNat : Int) := by
  unfold byt
  show ((((l.flatMap bytes4).getD (4 * i + r) 0)).toNat : Int) = _
  rw [List.getD_eq_getElem?_getD, flat4_get l i r h hr, ← List.getD_eq_getElem?_getD]
theorem word_of (x : Int) (hx : U x) : IntKind.u32.wrap (IntKind.u32.wrap (IntKind.u32.wrap (IntKind.u32.wrap ((((bytes4 x).getD 0 0).toNat : Int) * 16777216) + IntKind.u32.wrap ((((bytes4 x).getD 1 0).toNat : Int) * 65536)) + IntKind.u32.wrap ((((bytes4 x).getD 2 0).toNat : Int) * 256)) + (((bytes4 x).getD 3 0).toNat : Int)) = x := by
  unfold U at hx
  simp only [bytes4, List.getD_cons_zero, List.getD_cons_succ, UInt8.toNat_ofNat', IntKind.wrap_u32]
  omega
theorem word_at (l : List Int) (i : Nat) (h : i < l.length) (hU : U (l.getD i 0)) (D : ByteArray) (hD : D = ⟨(l.flatMap bytes4).toArray⟩) :
    IntKind.u32.wrap (IntKind.u32.wrap (IntKind.u32.wrap (IntKind.u32.wrap (byt D (4 * i) * 16777216) + IntKind.u32.wrap (byt D (4 * i + 1) * 65536)) + IntKind.u32.wrap (byt D (4 * i + 2) * 256)) + byt D (4 * i + 3)) = l.getD i 0 := by
  subst hD
  have e0 := byt_flat l i 0 h (by omega)
  rw [Nat.add_zero] at e0
  rw [e0, byt_flat l i 1 h (by omega), byt_flat l i 2 h (by omega), byt_flat l i 3 h (by omega)]
  exact word_of _ hU
end Go.Proofs.Ytefdokolbdnjnaa.Sm
