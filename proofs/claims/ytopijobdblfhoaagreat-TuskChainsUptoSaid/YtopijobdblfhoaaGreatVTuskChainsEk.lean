import Derived.IntWalk
/- Trimmed by a program. By an AI agent. -/
namespace Go.Proofs.YtopijobdblfhoaaGreat.Ek
def Evk {α : Type} (f : Nat → Option α) (v : α) : Prop := ∃ k0, ∀ k, k0 ≤ k → f k = some v
theorem Evk.step {α : Type} {f g : Nat → Option α} {v : α} (hg : Evk g v) (h : ∀ k, f (k + 1) = g k) : Evk f v := by
 obtain ⟨k0, h0⟩ := hg; refine ⟨k0 + 1, fun k hk => ?_⟩; obtain ⟨k', rfl⟩ : ∃ k', k = k' + 1 := ⟨k - 1, by omega⟩; rw [h]; exact h0 k' (by omega)
theorem Evk.of_eq {α : Type} {f g : Nat → Option α} {v : α} (hg : Evk g v) (h : ∀ k, f k = g k) : Evk f v := by
 obtain ⟨k0, h0⟩ := hg; exact ⟨k0, fun k hk => by rw [h]; exact h0 k hk⟩
theorem Evk.const {α : Type} {f : Nat → Option α} {v : α} (h : ∀ k, f k = some v) : Evk f v := ⟨0, fun k _ => h k⟩
theorem Evk.ret {α : Type} (v : α) : Evk (fun _ => some v) v := ⟨0, fun _ _ => rfl⟩
theorem Evk.bind {α β : Type} {f : Nat → Option α} {g : Nat → α → Option β} {v : α} {u : β} (hf : Evk f v) (hg : Evk (fun k => g k v) u) : Evk (fun k => (f k).bind (g k)) u := by
 obtain ⟨k0, h0⟩ := hf; obtain ⟨k1, h1⟩ := hg; refine ⟨max k0 k1, fun k hk => ?_⟩; show (f k).bind (g k) = some u; rw [h0 k (by omega), Option.bind_some]; exact h1 k (by omega)
theorem Evk.of_mono {α : Type} {f : Nat → Option α} {v : α} (h : ∀ k r, f k = some r → f (k + 1) = some r) {k0 : Nat} (h0 : f k0 = some v) : Evk f v :=
 ⟨k0, fun k hk => by
  obtain ⟨d, rfl⟩ := Nat.exists_eq_add_of_le hk
  induction d with
  | zero => exact h0
  | succ d ih => exact h _ _ (ih (by omega))⟩
theorem Evk.get {α : Type} {f : Nat → Option α} {v : α} (h : Evk f v) : ∃ k, f k = some v := by
 obtain ⟨k0, h0⟩ := h; exact ⟨k0, h0 k0 (Nat.le_refl _)⟩
end Go.Proofs.YtopijobdblfhoaaGreat.Ek
