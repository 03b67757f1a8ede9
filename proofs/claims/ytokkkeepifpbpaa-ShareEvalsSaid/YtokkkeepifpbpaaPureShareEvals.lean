/- Proved: the pure half of the law ShareEvals of chapter 4 (what the walked program computes is 'true'). Conditions: those of its row, no other. -/
import Derived.Test.YtokkkeepifpbpaaArgShareEvals
import Derived.Test.YtokkkeepifpbpaaSh
import Derived.IntWalk
namespace Go.Proofs.Ytokkkeepifpbpaa.Pure
open Go.IntWalk Go.RowKit Go.Proofs.Ytokkkeepifpbpaa.PShareEvals Go.Proofs.YtokkkeepifpbpaaW.PrintWords Go.Proofs.YtokkkeepifpbpaaW.PrintLast
set_option linter.unusedSimpArgs false

theorem shown : selvedgelaw04_shown.f = some true := by
  have e1 : eE [(⟨5, 0⟩ : S23), ⟨3, 0⟩] = [(5, 0), (3, 0)] := rfl
  have e2 : eS [(⟨1, ⟨8, 0⟩⟩ : S43), ⟨2, ⟨11, 0⟩⟩] = Fl.shownL := rfl
  unfold selvedgelaw04_shown.f share_Of.f share_Open.f
  simp only [Option.bind_some, e1, Fl.shown_of1, Fl.shown_of2, e2, Fl.shown_open]
  rfl
theorem rmay (a b : Int) : selvedgeref03_May.f a b = some (decide (Gm.Ok (a, b))) := by
  have e : Gm.Ok (a, b) ↔ 0 ≤ a ∧ a < 10007 ∧ 0 ≤ b ∧ b < 10007 := Iff.rfl
  unfold selvedgeref03_May.f
  by_cases h1 : a ≥ 0
  · by_cases h2 : a < 10007
    · by_cases h3 : b ≥ 0
      · rw [if_pos h1, if_pos h2, if_pos h3, Option.some.injEq, decide_eq_decide, e]
        omega
      · rw [if_pos h1, if_pos h2, if_neg h3, decide_eq_false (fun h => by rw [e] at h; omega)]
    · rw [if_pos h1, if_neg h2, decide_eq_false (fun h => by rw [e] at h; omega)]
  · rw [if_neg h1, decide_eq_false (fun h => by rw [e] at h; omega)]
theorem bp (a c : Int) (h0 : 0 ≤ a) (h1 : a < 10007) (h2 : 0 ≤ c) (h3 : c < 10007) : 0 ≤ a * c ∧ a * c ≤ 100120036 :=
  ⟨Int.mul_nonneg h0 h2, Int.le_trans (Int.mul_le_mul (show a ≤ 10006 by omega) (show c ≤ 10006 by omega) h2 (by omega)) (by decide)⟩
theorem rmulF (a b c d : Int) (h : Gm.Ok (a, b)) (h2 : Gm.Ok (c, d)) : selvedgeref03_Mul.f a b c d = some (Gm.mul (a, b) (c, d)) := by
  have p1 := bp a c h.1 h.2.1 h2.1 h2.2.1
  have p2 := bp b d h.2.2.1 h.2.2.2 h2.2.2.1 h2.2.2.2
  have p3 := bp a d h.1 h.2.1 h2.2.2.1 h2.2.2.2
  have p4 := bp b c h.2.2.1 h.2.2.2 h2.1 h2.2.1
  unfold selvedgeref03_Mul.f Gm.mul Gm.gmul Gm.red
  rw [rmay, rmay]
  simp only [Option.bind_some, h, h2, decide_true, if_true]
  generalize a * c = u at *
  generalize b * d = v at *
  generalize a * d = s at *
  generalize b * c = t at *
  rw [wrap64_in u (by omega), wrap64_in v (by omega), wrap64_in s (by omega), wrap64_in t (by omega), wrap64_in (u + 100140049) (by omega), wrap64_in _ (by omega), wrap64_in _ (by omega), Int.tmod_eq_emod_of_nonneg (by omega), Int.tmod_eq_emod_of_nonneg (by omega)]
  congr 2
  omega
theorem rmulN (a b c d : Int) (h : ¬ (Gm.Ok (a, b) ∧ Gm.Ok (c, d))) : selvedgeref03_Mul.f a b c d = some (0, 0) := by
  unfold selvedgeref03_Mul.f
  rw [rmay, rmay]
  simp only [Option.bind_some, decide_eq_true_eq]
  by_cases h1 : Gm.Ok (a, b)
  · rw [if_pos h1, if_neg (fun h2 => h ⟨h1, h2⟩)]
  · rw [if_neg h1]
theorem raddF (a b c d : Int) (h : Gm.Ok (a, b)) (h2 : Gm.Ok (c, d)) : selvedgeref03_Add.f a b c d = some (Gm.add (a, b) (c, d)) := by
  have h1' := h
  have h2' := h2
  unfold Gm.Ok at h1' h2'
  simp only at h1' h2'
  unfold selvedgeref03_Add.f Gm.add Gm.gadd Gm.red
  rw [rmay, rmay]
  simp only [Option.bind_some, h, h2, decide_true, if_true]
  rw [wrap64_in _ (by omega), wrap64_in _ (by omega), Int.tmod_eq_emod_of_nonneg (by omega), Int.tmod_eq_emod_of_nonneg (by omega)]
theorem raddN (a b c d : Int) (h : ¬ (Gm.Ok (a, b) ∧ Gm.Ok (c, d))) : selvedgeref03_Add.f a b c d = some (0, 0) := by
  unfold selvedgeref03_Add.f
  rw [rmay, rmay]
  simp only [Option.bind_some, decide_eq_true_eq]
  by_cases h1 : Gm.Ok (a, b)
  · rw [if_pos h1, if_neg (fun h2 => h ⟨h1, h2⟩)]
  · rw [if_neg h1]
theorem qmul (x y : Gm.E) : selvedgeref03_Mul.f x.1 x.2 y.1 y.2 = some (Fl.opE Gm.mul x y) := by
  unfold Fl.opE
  by_cases h : Gm.Ok x ∧ Gm.Ok y
  · rw [if_pos h]; exact rmulF _ _ _ _ h.1 h.2
  · rw [if_neg h]; exact rmulN _ _ _ _ h
theorem qadd (x y : Gm.E) : selvedgeref03_Add.f x.1 x.2 y.1 y.2 = some (Fl.opE Gm.add x y) := by
  unfold Fl.opE
  by_cases h : Gm.Ok x ∧ Gm.Ok y
  · rw [if_pos h]; exact raddF _ _ _ _ h.1 h.2
  · rw [if_neg h]; exact raddN _ _ _ _ h
theorem rd_is (l : List S23) {i : Nat} (hi : i < l.length) : ((rd_T23 l (i : Int)).f0, (rd_T23 l (i : Int)).f1) = (eE l).getD i (0, 0) := by
  unfold eE rd_T23
  simp [List.getElem?_eq_getElem hi]
theorem len_ok {l : List S23} (h : l.length * 16 ≤ 140737488351232) : l.length ≤ 9223372036854775000 := by omega
theorem succ_ok {i n : Nat} (h : i < n) (hn : n ≤ 9223372036854775000) : wrap64 ((i : Int) + 1) = ((i + 1 : Nat) : Int) := by rw [wrap64_in _ (by omega)]; omega
theorem refEval_l (l : List S23) (x : Gm.E) (hl : l.length ≤ 9223372036854775000) (r : Nat) : ∀ (i : Nat) (o : Gm.E), i ≤ l.length → selvedgeref04_Eval.l0 (r + i + 1) l ((i : Int) - 1) x.1 x.2 o.1 o.2 = some (Fl.evFrom (eE l) x i o)
  | 0, o, _ => by
    rw [selvedgeref04_Eval.l0, if_neg (by omega)]
    rfl
  | i + 1, o, hi => by
    have e : (((i + 1 : Nat) : Int) - 1) = (i : Int) := by omega
    have hw : wrap64 ((i : Int) - 1) = (i : Int) - 1 := wrap64_in _ (by omega)
    rw [show r + (i + 1) + 1 = (r + i + 1) + 1 by omega, selvedgeref04_Eval.l0, e, if_pos (by omega), qmul, Option.bind_some, if_pos (by omega), if_pos (by omega)]
    have e2 := qadd (Fl.opE Gm.mul o x) ((rd_T23 l (i : Int)).f0, (rd_T23 l (i : Int)).f1)
    simp only at e2
    rw [e2, Option.bind_some, hw, rd_is l (by omega), Fl.evFrom]
    exact refEval_l l x hl r i _ (by omega)
theorem refEval (l : List S23) (x : Gm.E) (hl : l.length ≤ 9223372036854775000) (r : Nat) : selvedgeref04_Eval.f (r + l.length + 1) l x.1 x.2 = some (Fl.evE (eE l) x) := by
  unfold selvedgeref04_Eval.f Fl.evE
  rw [wrap64_in _ (by omega), eE_length]
  exact refEval_l l x hl r l.length (0, 0) (Nat.le_refl _)
theorem refOf_a (l : List S23) (a : Int) (hl : l.length ≤ 9223372036854775000) (h : ∀ c ∈ eE l, Gm.Ok c) (r : Nat) : ∀ (m i : Nat), i + m = l.length → selvedgeref04_Of.l0 (r + m + l.length + 2) l a i = some (a, (Fl.evE (eE l) (a, 0)).1, (Fl.evE (eE l) (a, 0)).2, 0)
  | 0, i, hi => by
    rw [selvedgeref04_Of.l0, if_neg (by omega)]
    have := refEval l (a, 0) hl r
    simp only at this
    rw [show r + 0 + l.length + 1 = r + l.length + 1 by omega, this]
    rfl
  | m + 1, i, hi => by
    have ok : Gm.Ok ((rd_T23 l (i : Int)).f0, (rd_T23 l (i : Int)).f1) := by rw [rd_is l (by omega)]; exact Fl.getD_ok h i
    rw [show r + (m + 1) + l.length + 2 = (r + m + l.length + 2) + 1 by omega, selvedgeref04_Of.l0, if_pos (by omega), if_pos (by omega), rmay, Option.bind_some, if_pos (by simpa using ok), succ_ok (show i < l.length by omega) hl]
    exact refOf_a l a hl h r m (i + 1) (by omega)
theorem refOf_b (l : List S23) (a : Int) (hl : l.length ≤ 9223372036854775000) (r : Nat) : ∀ (m i : Nat), i + m = l.length → (∃ j, i ≤ j ∧ j < l.length ∧ ¬ Gm.Ok ((eE l).getD j (0, 0))) → selvedgeref04_Of.l0 (r + m + l.length + 2) l a i = some (0, 0, 0, 1)
  | 0, i, hi, h => by obtain ⟨j, h1, h2, _⟩ := h; omega
  | m + 1, i, hi, h => by
    rw [show r + (m + 1) + l.length + 2 = (r + m + l.length + 2) + 1 by omega, selvedgeref04_Of.l0, if_pos (by omega), if_pos (by omega), rmay, Option.bind_some, rd_is l (by omega), succ_ok (show i < l.length by omega) hl]
    by_cases ok : Gm.Ok ((eE l).getD i (0, 0))
    · rw [if_pos (by simpa using ok)]
      obtain ⟨j, h1, h2, h3⟩ := h
      have : j ≠ i := by rintro rfl; exact h3 ok
      exact refOf_b l a hl r m (i + 1) (by omega) ⟨j, by omega, h2, h3⟩
    · rw [if_neg (by simpa using ok)]
theorem refOf (l : List S23) (a : Int) (hl : l.length ≤ 9223372036854775000) : selvedgeref04_Of.f (l.length + l.length + 3) l a = some ((Fl.ofE (eE l) a).1.1, (Fl.ofE (eE l) a).1.2.1, (Fl.ofE (eE l) a).1.2.2, (Fl.ofE (eE l) a).2) := by
  unfold selvedgeref04_Of.f Fl.ofE
  rw [show l.length + l.length + 3 = (0 + l.length + l.length + 2) + 1 by omega]
  by_cases h1 : a < 1
  · rw [if_pos h1, if_pos h1, selvedgeref04_Of.j0, if_pos rfl]
  · rw [if_neg h1, if_neg h1]
    by_cases h2 : a > 64
    · rw [decide_eq_true h2, if_pos h2, selvedgeref04_Of.j0, if_pos rfl]
    · rw [decide_eq_false h2, if_neg h2, selvedgeref04_Of.j0, if_neg (by decide)]
      cases h3 : Fl.oddE (eE l) with
      | false =>
        rw [if_neg (by decide)]
        exact refOf_a l a hl ((Fl.oddE_iff _).1 h3) 0 l.length 0 (by omega)
      | true =>
        rw [if_pos rfl]
        refine refOf_b l a hl 0 l.length 0 (by omega) ?_
        refine Classical.byContradiction fun hn => ?_
        have : Fl.oddE (eE l) = false := (Fl.oddE_iff _).2 fun c hc => by
          obtain ⟨j, hj, rfl⟩ := List.getElem_of_mem hc
          refine Classical.byContradiction fun ho => hn ⟨j, Nat.zero_le _, by rw [← eE_length]; exact hj, ?_⟩
          rw [List.getD_eq_getElem?_getD, List.getElem?_eq_getElem hj]
          exact ho
        rw [this] at h3
        cases h3
theorem ShareEvals : selvedgelaw04_ShareEvals.Pure := by
  intro l x a hl _ _
  have hl' := len_ok hl.1
  refine ⟨l.length + l.length + 3, ?_⟩
  unfold selvedgelaw04_ShareEvals.f share_Of.f share_Eval.f
  rw [shown, refOf l a hl', show l.length + l.length + 3 = (l.length + 2) + l.length + 1 by omega]
  have := refEval l (x.f0, x.f1) hl' (l.length + 2)
  simp only at this
  rw [this]
  simp

end Go.Proofs.Ytokkkeepifpbpaa.Pure
