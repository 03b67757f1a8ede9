import Derived.Test.YtokkkeepifpbpaaEw
/-
  What one share that is another one changes. By an AI agent.
-/
namespace Go.Proofs.Ytokkkeepifpbpaa.Fl
open Gm
set_option linter.unusedVariables false

theorem inv_ne {x : E} (h : Ok x) (h0 : x ≠ (0, 0)) : inv x ≠ (0, 0) := by
  intro e
  have := mul_inv' h h0
  rw [e, mul_zero] at this
  exact absurd this (by decide)
theorem lag_ne {l : Row} (h : Apart l) {k : Nat} (hk : k < l.length) : lag (xAt l) l.length (0, 0) k ≠ (0, 0) := by
  unfold lag
  refine pr_ne (fun i hi => ?_) (fun i hi => ?_)
  · unfold fac
    by_cases e : i = k
    · rw [if_pos e]; exact one_ok
    · rw [if_neg e]; exact mul_ok _ _
  · unfold fac
    by_cases e : i = k
    · rw [if_pos e]; decide
    · rw [if_neg e, sub_zero (h.x_ok i hi)]
      intro hz
      rcases (mul_zero_iff (h.x_ok i hi) (inv_ok _)).1 hz with h1 | h1
      · exact h.ne0 i hi h1
      · exact inv_ne (sub_ok _ _) (sub_ne (h.x_ok i hi) (h.x_ok k hk) (fun x => e (h.inj i k hi hk x))) h1
theorem lag_congr {X Y : Nat → E} {n : Nat} (h : ∀ i, i < n → X i = Y i) (z : E) {k : Nat} (hk : k < n) : lag X n z k = lag Y n z k := by
  unfold lag
  refine pr_congr fun i hi => ?_
  unfold fac
  rw [h i hi, h k hk]
theorem add_cancel {x d : E} (hx : Ok x) (hd : Ok d) (h : add x d = x) : d = (0, 0) := by
  have := add_sub_cancel x hd
  rw [add_comm, h, sub_self] at this
  exact this.symm
/-- One value that is another one. -/
theorem secret_diff {l m : Row} (hl : m.length = l.length) (hid : ∀ i, i < l.length → idAt m i = idAt l i) {a : Nat} (ha : a < l.length) (hv : ∀ i, i < l.length → i ≠ a → vAt m i = vAt l i) (okl : Ok (vAt l a)) (okm : Ok (vAt m a)) :
    secret m = add (secret l) (mul (sub (vAt m a) (vAt l a)) (lag (xAt l) l.length (0, 0) a)) := by
  have hx : ∀ i, i < l.length → xAt m i = xAt l i := fun i hi => by unfold xAt; rw [hid i hi]
  have e : secret m = sm (fun k => add (mul (vAt l k) (lag (xAt l) l.length (0, 0) k)) (if k = a then mul (sub (vAt m a) (vAt l a)) (lag (xAt l) l.length (0, 0) a) else (0, 0))) l.length := by
    unfold secret
    rw [hl]
    refine sm_congr fun k hk => ?_
    rw [lag_congr hx (0, 0) hk]
    by_cases h : k = a
    · subst h
      rw [if_pos rfl, ← add_mul, add_comm, sub_add_cancel _ okm]
    · rw [if_neg h, hv k hk h, add_zero (mul_ok _ _)]
  rw [e, sm_add]
  unfold secret
  congr 1
  rw [sm_single ha (by rw [if_pos rfl]; exact mul_ok _ _) (fun i _ hne => if_neg hne), if_pos rfl]
theorem secret_ok (l : Row) : Ok (secret l) := sm_ok _ _
theorem secret_same {l m : Row} (h : Apart l) (hl : m.length = l.length) (hid : ∀ i, i < l.length → idAt m i = idAt l i) {a : Nat} (ha : a < l.length) (hv : ∀ i, i < l.length → i ≠ a → vAt m i = vAt l i) (okl : Ok (vAt l a)) (okm : Ok (vAt m a)) :
    secret m = secret l ↔ vAt m a = vAt l a := by
  rw [secret_diff hl hid ha hv okl okm]
  constructor
  · intro e
    have := add_cancel (secret_ok l) (mul_ok _ _) e
    rcases (mul_zero_iff (sub_ok _ _) (lag_ok _ _ _ _)).1 this with h1 | h1
    · exact eq_of_sub okm okl h1
    · exact absurd h1 (lag_ne h ha)
  · intro e
    rw [e, sub_self, zero_mul, add_zero (secret_ok l)]

theorem set_at (l : Row) (a : Nat) (x : Int × E) (ha : a < l.length) : (l.set a x).getD a (0, (0, 0)) = x := by
  rw [List.getD_eq_getElem?_getD, List.getElem?_set_self ha]
  rfl
theorem set_off (l : Row) {a i : Nat} (x : Int × E) (h : i ≠ a) : (l.set a x).getD i (0, (0, 0)) = l.getD i (0, (0, 0)) := by
  rw [List.getD_eq_getElem?_getD, List.getElem?_set_ne (Ne.symm h), List.getD_eq_getElem?_getD]
/-- The row with another value at a. -/
def put (l : Row) (a : Nat) (v : E) : Row := l.set a (idAt l a, v)
theorem put_length (l : Row) (a : Nat) (v : E) : (put l a v).length = l.length := List.length_set
theorem put_id (l : Row) {a : Nat} (v : E) (ha : a < l.length) (i : Nat) : idAt (put l a v) i = idAt l i := by
  unfold put
  by_cases h : i = a
  · subst h
    exact congrArg (·.1) (set_at l i _ ha)
  · exact congrArg (·.1) (set_off l _ h)
theorem put_v (l : Row) {a : Nat} (v : E) (ha : a < l.length) : vAt (put l a v) a = v := congrArg (·.2) (set_at l a _ ha)
theorem put_v' (l : Row) {a i : Nat} (v : E) (h : i ≠ a) : vAt (put l a v) i = vAt l i := congrArg (·.2) (set_off l _ h)
theorem put_apart {l : Row} (h : Apart l) {a : Nat} (v : E) (ha : a < l.length) : Apart (put l a v) := by
  intro j hj
  rw [put_length] at hj
  rw [put_id l v ha]
  obtain ⟨h1, h2, h3⟩ := h j hj
  exact ⟨h1, h2, fun i hi => by rw [put_id l v ha]; exact h3 i hi⟩
theorem put_ok {l : Row} (h : ∀ i, i < l.length → Ok (vAt l i)) {a : Nat} {v : E} (ha : a < l.length) (hv : Ok v) : ∀ i, i < (put l a v).length → Ok (vAt (put l a v) i) := by
  intro i hi
  rw [put_length] at hi
  by_cases e : i = a
  · subst e; rw [put_v l v ha]; exact hv
  · rw [put_v' l v e]; exact h i hi
end Go.Proofs.Ytokkkeepifpbpaa.Fl
