import Derived.Test.YtefdokolbdnjnaaVCutTwoHz
import Derived.ArgAppend
import Derived.Lib.ConvBytes
import Derived.Lib.AppendStr
import Derived.Laws.IdiomCopy
import Derived.Deep.CutRange
/- What this claim names of the words that its proofs lean on: gathered out of them by a program of this session (shake.py). By an AI agent. -/
section
/-
  Bytes of the call's own, begun by []byte(s) or as a row of its own, appended to: what they are good for. By an AI agent.
-/
namespace Go.Proofs.Ytefdokolbdnjnaa.Sa
open Go.RowKit Go.Proofs.YtefdokolbdnjnaaW.PrintWords Go.Proofs.YtefdokolbdnjnaaW.PrintLast Go.Proofs.YtefdokolbdnjnaaW.PrintMore
set_option linter.unusedVariables false
set_option linter.unusedSimpArgs false

/-- The slice value v, not nil, has the bytes l, in cells of the call's own (from block 'base' on) that may be written up to its capacity. -/
def BB (base : Nat) (w : World) (v : Value) (l : List Int) : Prop :=
  ∃ g cap, v = .slice (some ⟨g, 0, none⟩) l.length cap ∧ base ≤ g ∧ g < w.heap.size ∧ l.length ≤ cap ∧ cap ≤ maxLen ∧ (∀ j, j < cap → (w.cell? ⟨g, j, none⟩).isSome = true) ∧ (∀ j, j < cap → w.frozen? ⟨g, j, none⟩ = false) ∧ (∀ j x, l[j]? = some x → w.cell? ⟨g, j, none⟩ = some (.int .u8 x))
theorem BB.base {base : Nat} {w : World} {v : Value} {l : List Int} (h : BB base w v l) : ∀ k, v.ownBlock = some k → base ≤ k := by
  obtain ⟨g, cap, rfl, hb, _⟩ := h
  intro k hk
  simp only [Value.ownBlock, Option.some.injEq] at hk
  omega
theorem BB.below {base : Nat} {w w1 : World} {v : Value} {l : List Int} (h : BB base w v l) (hb : Below w.heap.size w w1) : BB base w1 v l := by
  obtain ⟨g, cap, rfl, h1, h2, h3, h4, h5, h6, h7⟩ := h
  refine ⟨g, cap, rfl, h1, by have := hb.size; omega, h3, h4, fun j hj => ?_, fun j hj => ?_, fun j x hx => ?_⟩
  · rw [hb.cell (p := ⟨g, j, none⟩) h2]; exact h5 j hj
  · rw [hb.frozen (p := ⟨g, j, none⟩) h2]; exact h6 j hj
  · rw [hb.cell (p := ⟨g, j, none⟩) h2]; exact h7 j x hx
theorem BB.other {base : Nat} {w w1 : World} {v : Value} {l : List Int} {row : Option Nat} (h : BB base w v l) (hg : w.grownBy w1 row) (hne : v.ownBlock ≠ row) : BB base w1 v l := by
  obtain ⟨g, cap, rfl, h1, h2, h3, h4, h5, h6, h7⟩ := h
  have hh := hg.block g h2 (by simpa [Value.ownBlock] using hne)
  refine ⟨g, cap, rfl, h1, by have := hg.size; omega, h3, h4, fun j hj => ?_, fun j hj => ?_, fun j x hx => ?_⟩
  · have := h5 j hj; simpa [World.cell?, hh] using this
  · have := h6 j hj; simpa [World.frozen?, hh] using this
  · have := h7 j x hx; simpa [World.cell?, hh] using this
theorem BB.alloc {base : Nat} {w : World} {v : Value} {l : List Int} (h : BB base w v l) (o : Obj) : BB base (w.alloc o) v l := h.below ((Below.refl _ _).alloc (Nat.le_refl _) _)
theorem BB.drew {base : Nat} {w : World} {v : Value} {l : List Int} (h : BB base w v l) : BB base w.drew v l := h
theorem BB.reads {base : Nat} {w : World} {v : Value} {l : List Int} (h : BB base w v l) : ∃ A c, v = .slice A l.length c ∧ ReadsInt w .u8 A l.length l := by
  obtain ⟨g, cap, rfl, h1, h2, h3, h4, h5, h6, h7⟩ := h
  refine ⟨_, _, rfl, rfl, by unfold maxLen at h4; omega, fun _ => ⟨_, rfl, fun j hj => ?_⟩⟩
  rw [add_plain]
  exact (h7 j _ (List.getElem?_eq_getElem hj)).trans (by simp [List.getD_eq_getElem?_getD, List.getElem?_eq_getElem hj])
theorem setCells_size (b : Nat) : ∀ (vs : List Value) (o : Nat) (w : World), (w.setCells b o vs).heap.size = w.heap.size
  | [], _, _ => rfl
  | v :: r, o, w => by
    rw [World.setCells, setCells_size b r (o + 1)]
    simp [World.setCell]
/-- what was written behind -/
theorem BB.wrote {base g cap : Nat} {w : World} {l ys : List Int} (h : BB base w (.slice (some ⟨g, 0, none⟩) l.length cap) l) (hr : l.length + ys.length ≤ cap) :
    BB base (w.setCells g (0 + l.length * 1) (nums .u8 ys)) (.slice (some ⟨g, 0, none⟩) (l.length + ys.length) cap) (l ++ ys) := by
  obtain ⟨g', cap', he, h1, h2, h3, h4, h5, h6, h7⟩ := h
  injection he with e1 _ e3
  injection e1 with e1
  injection e1 with e1
  subst e1 e3
  simp only [Nat.zero_add, Nat.mul_one]
  have hin : ∀ j, j < (nums .u8 ys).length → (w.cell? ⟨g, l.length + j, none⟩).isSome = true := fun j hj => h5 _ (by rw [nums_length] at hj; omega)
  refine ⟨g, cap, by rw [List.length_append], h1, by rw [setCells_size]; exact h2, by rw [List.length_append]; exact hr, h4, fun j hj => ?_, fun j hj => ?_, fun j x hx => ?_⟩
  · by_cases h : l.length ≤ j ∧ j < l.length + ys.length
    · obtain ⟨i, rfl⟩ : ∃ i, j = l.length + i := ⟨j - l.length, by omega⟩
      rw [World.cell?_setCells_in g (nums .u8 ys) l.length w hin i (by rw [nums_length]; omega)]
      rfl
    · rw [World.cell?_setCells_out g (nums .u8 ys) l.length w ⟨g, j, none⟩ (fun _ _ => by rw [nums_length]; show j < l.length ∨ l.length + ys.length ≤ j; omega)]
      exact h5 j hj
  · rw [World.frozen?_setCells]; exact h6 j hj
  · by_cases h : j < l.length
    · rw [List.getElem?_append_left h] at hx
      rw [World.cell?_setCells_out g (nums .u8 ys) l.length w ⟨g, j, none⟩ (fun _ _ => .inl h)]
      exact h7 j x hx
    · obtain ⟨i, rfl⟩ : ∃ i, j = l.length + i := ⟨j - l.length, by omega⟩
      rw [List.getElem?_append_right (by omega), Nat.add_sub_cancel_left] at hx
      have hi : i < ys.length := (List.getElem?_eq_some_iff.1 hx).1
      rw [World.cell?_setCells_in g (nums .u8 ys) l.length w hin i (by rw [nums_length]; exact hi)]
      simp [nums]
      have := (List.getElem?_eq_some_iff.1 hx).2
      exact this
section
variable {ops : Array Oper} {rest : List Oper} {o : Oper} {a : Act} {Q : Exit → Act → World → Prop}
end
end Go.Proofs.Ytefdokolbdnjnaa.Sa
end
section
/-
  The reference's constants of the digest, walked. By an AI agent.
-/
namespace Go.Proofs.Ytefdokolbdnjnaa.Sa
open Go.Proofs.Ytefdokolbdnjnaa.Sm
open Go.RowKit Go.Proofs.YtefdokolbdnjnaaW.PrintWords Go.Proofs.YtefdokolbdnjnaaW.PrintLast
set_option linter.unusedVariables false
set_option linter.unusedSimpArgs false

end Go.Proofs.Ytefdokolbdnjnaa.Sa
end
section
/-
  The reference's words turned and shifted, walked. By an AI agent.
-/
namespace Go.Proofs.Ytefdokolbdnjnaa.Sa
open Go.Proofs.Ytefdokolbdnjnaa.Sm
open Go.RowKit Go.Proofs.YtefdokolbdnjnaaW.PrintWords Go.Proofs.YtefdokolbdnjnaaW.PrintLast Go.Proofs.YtefdokolbdnjnaaW.PrintMore
set_option linter.unusedVariables false
set_option linter.unusedSimpArgs false

end Go.Proofs.Ytefdokolbdnjnaa.Sa
end
section
/-
  The reference's Pad walked. By an AI agent.
-/
namespace Go.Proofs.Ytefdokolbdnjnaa.Sa
open Go.Proofs.Ytefdokolbdnjnaa.Sm
open Go.RowKit Go.Proofs.YtefdokolbdnjnaaW.PrintWords Go.Proofs.YtefdokolbdnjnaaW.PrintLast Go.Proofs.YtefdokolbdnjnaaW.PrintMore
set_option linter.unusedVariables false
set_option linter.unusedSimpArgs false

def lenOf : Value → Nat
  | .slice _ n _ => n
  | _ => 0
end Go.Proofs.Ytefdokolbdnjnaa.Sa
end
section
/-
  The reference's Block walked: a state behind a block. By an AI agent.
-/
namespace Go.Proofs.Ytefdokolbdnjnaa.Sa
open Go.Proofs.Ytefdokolbdnjnaa.Sm
open Go.RowKit Go.Proofs.YtefdokolbdnjnaaW.PrintWords Go.Proofs.YtefdokolbdnjnaaW.PrintLast Go.Proofs.YtefdokolbdnjnaaW.PrintMore
set_option linter.unusedVariables false
set_option linter.unusedSimpArgs false

section
variable {P : Program} {ops : Array Oper} {o : Oper} {a : Act} {Kc : Act → World → Prop} {Q' : Exit → Act → World → Prop}
end
structure RbW (w : World) (h : St) (w' : World) : Prop where
  b0 : w'.heap[w.heap.size]? = some (.cells (cellsU h.list) 26 (0, 0))
  b1 : w'.heap[w.heap.size + 1]? = some (.cells (cellsU [0, 0, 0, 0, 0, 0, 0, 0]) 26 (0, 0))
  bel : Below w.heap.size w w'
theorem RbW.drew {w w' : World} {h : St} (H : RbW w h w') : RbW w h w'.drew := ⟨H.b0, H.b1, below_drew H.bel⟩
theorem RbW.next {w W w1 : World} {h : St} {v : Value} {n : Nat} {xs : List Value} (H : RbW w h W) (ho : W.ownsRow w.heap.size 23 1 v n xs) (hg : W.grownBy w1 v.ownBlock) (hb : Below w.heap.size w w1) : RbW w h w1 :=
  ⟨blk_grown H.b0 hg (own_ne ho H.b0 (by decide)), blk_grown H.b1 hg (own_ne ho H.b1 (by decide)), hb⟩
end Go.Proofs.Ytefdokolbdnjnaa.Sa
end
section
/-
  The reference's Sum walked: a text's digest. By an AI agent.
-/
namespace Go.Proofs.Ytefdokolbdnjnaa.Sa
open Go.Proofs.Ytefdokolbdnjnaa.Sm
open Go.RowKit Go.Proofs.YtefdokolbdnjnaaW.PrintWords Go.Proofs.YtefdokolbdnjnaaW.PrintLast Go.Proofs.YtefdokolbdnjnaaW.PrintMore
set_option linter.unusedVariables false
set_option linter.unusedSimpArgs false

section
variable {P : Program} {ops : Array Oper} {o : Oper} {a : Act} {Kc : Act → World → Prop} {Q' : Exit → Act → World → Prop}
end
end Go.Proofs.Ytefdokolbdnjnaa.Sa
end

