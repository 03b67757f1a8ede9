/- Proved: the pure half of the law ShareOrder of chapter 4 (what the walked program computes is 'true'). Conditions: those of its row, no other. -/
import Derived.Test.YtokkkeepifpbpaaArgShareOrder
import Derived.Test.YtokkkeepifpbpaaSh
import Derived.IntWalk
namespace Go.Proofs.Ytokkkeepifpbpaa.Pure
open Go.IntWalk Go.RowKit Go.Proofs.Ytokkkeepifpbpaa.PShareOrder Go.Proofs.YtokkkeepifpbpaaW.PrintWords Go.Proofs.YtokkkeepifpbpaaW.PrintLast
set_option linter.unusedSimpArgs false

theorem shown : selvedgelaw04_shown.f = some true := by
  have e1 : eE [(⟨5, 0⟩ : S23), ⟨3, 0⟩] = [(5, 0), (3, 0)] := rfl
  have e2 : eS [(⟨1, ⟨8, 0⟩⟩ : S43), ⟨2, ⟨11, 0⟩⟩] = Fl.shownL := rfl
  unfold selvedgelaw04_shown.f share_Of.f share_Open.f
  simp only [Option.bind_some, e1, Fl.shown_of1, Fl.shown_of2, e2, Fl.shown_open]
  rfl
theorem rd_is (l : List S23) {i : Nat} (hi : i < l.length) : ((rd_T23 l (i : Int)).f0, (rd_T23 l (i : Int)).f1) = (eE l).getD i (0, 0) := by
  unfold eE rd_T23
  simp [List.getElem?_eq_getElem hi]
theorem len_ok {l : List S23} (h : l.length * 16 ≤ 140737488351232) : l.length ≤ 9223372036854775000 := by omega
theorem succ_ok {i n : Nat} (h : i < n) (hn : n ≤ 9223372036854775000) : wrap64 ((i : Int) + 1) = ((i + 1 : Nat) : Int) := by rw [wrap64_in _ (by omega)]; omega
theorem eS_snoc (l : List S43) (s : S43) : eS (l ++ [s]) = eS l ++ [(s.f0, (s.f1.f0, s.f1.f1))] := by simp [eS]
theorem loop (l : List S43) (hl : l.length * 24 ≤ 140737488351232) (r : Nat) : ∀ (m : Nat) (s : List S43), m ≤ l.length → eS s = ((eS l).drop m).reverse → selvedgelaw04_ShareOrder.l0 (r + m + 1) l true s ((m : Int) - 1) = some true
  | 0, s, _, hs => by
    rw [List.drop_zero] at hs
    rw [selvedgelaw04_ShareOrder.l0, if_neg (by omega)]
    unfold share_Open.f
    rw [hs, Fl.open_rev]
    simp
  | m + 1, s, hm, hs => by
    have hsl : s.length = l.length - (m + 1) := by
      have := congrArg List.length hs
      rw [eS_length, List.length_reverse, List.length_drop, eS_length] at this
      exact this
    have e : (((m + 1 : Nat) : Int) - 1) = (m : Int) := by omega
    have hw : wrap64 ((m : Int) - 1) = (m : Int) - 1 := wrap64_in _ (by omega)
    rw [show r + (m + 1) + 1 = (r + m + 1) + 1 by omega, selvedgelaw04_ShareOrder.l0, e, if_pos (by omega), if_pos (by omega), if_pos (by omega), if_pos (by omega), hw]
    refine loop l hl r m _ (by omega) ?_
    rw [eS_snoc, hs]
    have hi : m < (eS l).length := by rw [eS_length]; omega
    rw [List.drop_eq_getElem_cons hi, List.reverse_cons]
    have g : (eS l)[m] = ((rd_T43 l (m : Int)).f0, ((rd_T43 l (m : Int)).f1.f0, (rd_T43 l (m : Int)).f1.f1)) := by
      simp [eS, rd_T43, List.getElem?_eq_getElem (show m < l.length by omega)]
    rw [g]
theorem ShareOrder : selvedgelaw04_ShareOrder.Pure := by
  intro l hl
  refine ⟨0 + l.length + 1, ?_⟩
  unfold selvedgelaw04_ShareOrder.f
  rw [shown, Option.bind_some]
  by_cases h : (l.length : Int) > 64
  · rw [if_pos h]
  · rw [if_neg h, wrap64_in _ (by omega)]
    exact loop l hl.1 0 l.length [] (Nat.le_refl _) (by rw [← eS_length l, List.drop_length]; rfl)

end Go.Proofs.Ytokkkeepifpbpaa.Pure
