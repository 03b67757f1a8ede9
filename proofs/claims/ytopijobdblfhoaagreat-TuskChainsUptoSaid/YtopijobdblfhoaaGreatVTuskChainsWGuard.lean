import Derived.Test.YtopijobdblfhoaaGreatVTuskChainsWTab
import Derived.Test.YtopijobdblfhoaaGreatVTuskChainsWWords
section
/- Trimmed by a program. By an AI agent. -/
namespace Go.Proofs.YtopijobdblfhoaaGreatW.PrintLast
def up (b : Nat → Bool) (i : Nat) : Nat → Bool := fun j => if j = i then true else b j
section
variable {P : Program} {ops : Array Oper} {Q : Exit → Act → World → Prop} {md : Region.Mode} {T : Bool × List (List Nat × List Nat)} {B : List Nat} {O : List Nat} {b : Nat → Bool} {i j n : Nat}
def Closed (T : List (List Nat × List Nat)) (O : List Nat) (b : Nat → Bool) : Prop := ∀ d r, T[d]? = some r → O.contains d = true → b d = true → ∀ n ∈ r.1, O.contains n = true → b n = true
end
end Go.Proofs.YtopijobdblfhoaaGreatW.PrintLast
end
section
/- Trimmed by a program. By an AI agent. -/
namespace Go.Proofs.YtopijobdblfhoaaGreatW.PrintWords
theorem Qbv.front {α : Type} {R : α → List Value → Prop} {size : Nat} {ps : List α} {cs c all : List Value} {p : α} (hp : R p c) (hc : c.length = size) (h : Qbv R size ps cs) (ha : c ++ cs = all) : Qbv R size (p :: ps) all := by
 subst ha; refine ⟨by rw [List.length_append, hc, h.1, List.length_cons, Nat.succ_mul, Nat.add_comm], fun j q hq => ?_⟩
 cases j with
 | zero =>
  simp only [List.getElem?_cons_zero, Option.some.injEq] at hq; subst hq; rw [Nat.zero_mul, List.drop_zero, List.take_append_of_le_length (by omega), List.take_of_length_le (by omega)]; exact hp
 | succ j =>
  simp only [List.getElem?_cons_succ] at hq; have h1 := h.2 j q hq; rw [Nat.succ_mul, List.drop_append, List.drop_of_length_le (by rw [hc]; exact Nat.le_add_left _ _), List.nil_append, hc, Nat.add_sub_cancel]; exact h1
theorem Qbv.c7 {α : Type} {R : α → List Value → Prop} {ps : List α} {cs : List Value} {p : α} {va vb vc vd ve vf vg : Value} (hp : R p [va, vb, vc, vd, ve, vf, vg]) (h : Qbv R 7 ps cs) : Qbv R 7 (p :: ps) (va :: vb :: vc :: vd :: ve :: vf :: vg :: cs) := Qbv.front hp rfl h rfl
theorem Qbv.c8 {α : Type} {R : α → List Value → Prop} {ps : List α} {cs : List Value} {p : α} {va vb vc vd ve vf vg vh : Value} (hp : R p [va, vb, vc, vd, ve, vf, vg, vh]) (h : Qbv R 8 ps cs) : Qbv R 8 (p :: ps) (va :: vb :: vc :: vd :: ve :: vf :: vg :: vh :: cs) := Qbv.front hp rfl h rfl
theorem Qbv.c10 {α : Type} {R : α → List Value → Prop} {ps : List α} {cs : List Value} {p : α} {va vb vc vd ve vf vg vh vi vj : Value} (hp : R p [va, vb, vc, vd, ve, vf, vg, vh, vi, vj]) (h : Qbv R 10 ps cs) : Qbv R 10 (p :: ps) (va :: vb :: vc :: vd :: ve :: vf :: vg :: vh :: vi :: vj :: cs) := Qbv.front hp rfl h rfl
end Go.Proofs.YtopijobdblfhoaaGreatW.PrintWords
end
section
/- Trimmed by a program. By an AI agent. -/
namespace Go.Proofs.YtopijobdblfhoaaGreatW.PrintWords
open Go.RowKit
section
variable {P : Program} {ops : Array Oper} {rest : List Oper} {o : Oper} {a : Act} {Q : Exit → Act → World → Prop} {W : World}
theorem Qbh (hw : Region.wanted o (yielded ops a.tmps) = true) (h : wpList P ops Q ({ o with guard := none } :: rest) a W) : wpList P ops Q (o :: rest) a W := by
 have h1 : Region.wanted { o with guard := none } (yielded ops a.tmps) = true := rfl; unfold wpList at h ⊢; rw [if_pos h1] at h; rw [if_pos hw]; exact h
end
end Go.Proofs.YtopijobdblfhoaaGreatW.PrintWords
end
