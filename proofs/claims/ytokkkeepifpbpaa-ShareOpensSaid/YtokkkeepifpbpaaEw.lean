import Derived.Test.YtokkkeepifpbpaaSh
/-
  Rounds enough, whatever further; and shares by their numbers. By an AI agent.
-/
namespace Go.Proofs.Ytokkkeepifpbpaa.Fl
open Gm
set_option linter.unusedVariables false

/-! ### rounds enough -/
def Ev {α : Type} (f : Nat → Option α) (v : α) : Prop := ∃ k0, ∀ k, k0 ≤ k → f k = some v
theorem Ev.step {α : Type} {f g : Nat → Option α} {v : α} (hg : Ev g v) (h : ∀ k, f (k + 1) = g k) : Ev f v := by
  obtain ⟨k0, h0⟩ := hg
  refine ⟨k0 + 1, fun k hk => ?_⟩
  obtain ⟨k', rfl⟩ : ∃ k', k = k' + 1 := ⟨k - 1, by omega⟩
  rw [h]
  exact h0 k' (by omega)
theorem Ev.of_eq {α : Type} {f g : Nat → Option α} {v : α} (hg : Ev g v) (h : ∀ k, f k = g k) : Ev f v := by
  obtain ⟨k0, h0⟩ := hg
  exact ⟨k0, fun k hk => by rw [h]; exact h0 k hk⟩
theorem Ev.const {α : Type} {f : Nat → Option α} {v : α} (h : ∀ k, f k = some v) : Ev f v := ⟨0, fun k _ => h k⟩
theorem Ev.bind {α β : Type} {f : Nat → Option α} {g : Nat → α → Option β} {v : α} {u : β} (hf : Ev f v) (hg : Ev (fun k => g k v) u) : Ev (fun k => (f k).bind (g k)) u := by
  obtain ⟨k0, h0⟩ := hf
  obtain ⟨k1, h1⟩ := hg
  refine ⟨max k0 k1, fun k hk => ?_⟩
  show (f k).bind (g k) = some u
  rw [h0 k (by omega), Option.bind_some]
  exact h1 k (by omega)
theorem Ev.of_mono {α : Type} {f : Nat → Option α} {v : α} (h : ∀ k r, f k = some r → f (k + 1) = some r) {k0 : Nat} (h0 : f k0 = some v) : Ev f v :=
  ⟨k0, fun k hk => by
    obtain ⟨d, rfl⟩ := Nat.exists_eq_add_of_le hk
    induction d with
    | zero => exact h0
    | succ d ih => exact h _ _ (ih (by omega))⟩
theorem Ev.get {α : Type} {f : Nat → Option α} {v : α} (h : Ev f v) : ∃ k, f k = some v := by
  obtain ⟨k0, h0⟩ := h
  exact ⟨k0, h0 k0 (Nat.le_refl _)⟩

/-- shares of nobody's, with numbers l -/
def Good (l : List Int) : Prop := l.Nodup ∧ ∀ x ∈ l, 1 ≤ x ∧ x ≤ 64
theorem apart_of {l : List Int} (h : Good l) {s : Row} (hs : s.map (·.1) = l) : Apart s := by
  have hl : s.length = l.length := by rw [← hs, List.length_map]
  have hid : ∀ i (hi : i < l.length), idAt s i = l[i] := fun i hi => by
    subst hs
    unfold idAt
    rw [List.getElem_map, List.getD_eq_getElem?_getD, List.getElem?_eq_getElem (by rw [hl]; exact hi)]
    rfl
  intro j hj
  rw [hl] at hj
  rw [hid j hj]
  obtain ⟨a, b⟩ := h.2 _ (List.getElem_mem hj)
  refine ⟨a, b, fun i hi e => ?_⟩
  rw [hid i (by omega)] at e
  have := (List.nodup_iff_pairwise_ne.1 h.1)
  rw [List.pairwise_iff_getElem] at this
  exact this i j (by omega) hj hi e
/-- by what shares count is, together, 1 -/
theorem weights_one {s : Row} (h : Apart s) (h0 : s.length ≠ 0) : sm (fun k => lag (xAt s) s.length (0, 0) k) s.length = (1, 0) := by
  obtain ⟨n, hn⟩ : ∃ n, s.length = n + 1 := ⟨s.length - 1, by omega⟩
  have := lagrange (X := xAt s) (n := s.length) h.x_ok h.inj (f := fun _ => (1, 0)) (fun _ _ => one_ok) (by rw [hn]; exact pl_const one_ok n) (0, 0) zero_ok
  rw [← this]
  exact sm_congr fun i _ => (one_mul (lag_ok _ _ _ _)).symm

end Go.Proofs.Ytokkkeepifpbpaa.Fl
