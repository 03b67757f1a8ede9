import Derived.Test.YtcbfnmabckjijaaVOrderBehindNv
/- Trimmed by a program. By an AI agent. -/
namespace Go.Proofs.Ytcbfnmabckjijaa.Si
open Go.RowKit
set_option linter.unusedVariables false
set_option linter.unusedSimpArgs false
theorem ixL_succ {α : Type} (p : α → Bool) : ∀ (l : List α) (i : Nat), ixL p l (i + 1) = if 0 ≤ ixL p l i then ixL p l i + 1 else ixL p l i
 | [], i => by simp [ixL]
 | x :: r, i => by
  rw [ixL, ixL]
  by_cases h : p x = true
  ·
   rw [if_pos h, if_pos h, if_pos (by omega)]; omega
  ·
   rw [if_neg h, if_neg h, ixL_succ p r (i + 1)]
theorem place_cons {α : Type} (p : α → Bool) (a : α) (l : List α) : place p (a :: l) = if p a = true then 0 else place p l + 1 := by
 unfold place
 rw [ixL]
 by_cases h : p a = true
 ·
  rw [if_pos h, if_pos h, if_pos (by omega)]; rfl
 ·
  rw [if_neg h, if_neg h, ixL_succ]
  by_cases h0 : 0 ≤ ixL p l 0
  ·
   rw [if_pos h0, if_pos h0, if_pos (by omega)]; omega
  ·
   rw [if_neg h0, if_neg h0, if_neg h0, List.length_cons]
theorem insAt_cons {α : Type} (p : α → Bool) (x a : α) (l : List α) : insAt p x (a :: l) = if p a = true then x :: a :: l else a :: insAt p x l := by
 unfold insAt
 rw [place_cons]
 split <;> rfl
theorem mem_insAt {α : Type} (p : α → Bool) (x y : α) : ∀ l : List α, y ∈ insAt p x l ↔ y = x ∨ y ∈ l
 | [] => by simp [insAt, place, ixL]
 | a :: l => by
  rw [insAt_cons]
  split
  ·
   simp
  ·
   simp only [List.mem_cons, mem_insAt p x y l]
   constructor
   ·
    rintro (h | h | h)
    ·
     exact .inr (.inl h)
    ·
     exact .inl h
    ·
     exact .inr (.inr h)
   ·
    rintro (h | h | h)
    ·
     exact .inr (.inl h)
    ·
     exact .inl h
    ·
     exact .inr (.inr h)
end Go.Proofs.Ytcbfnmabckjijaa.Si
