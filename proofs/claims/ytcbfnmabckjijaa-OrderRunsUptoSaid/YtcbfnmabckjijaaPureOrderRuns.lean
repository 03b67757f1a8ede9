import Derived.Test.YtcbfnmabckjijaaArgOrderRuns
namespace Go.Proofs.Ytcbfnmabckjijaa.Pure
open Go.RowKit Go.Proofs.Ytcbfnmabckjijaa.POrderRuns Go.Proofs.YtcbfnmabckjijaaW.PrintWords Go.Proofs.YtcbfnmabckjijaaW.PrintLast
set_option linter.unusedVariables false
set_option linter.unusedSimpArgs false

set_option maxRecDepth 100000 in
theorem shown_true : selvedgelaw14_shown.f 400 = some true := by decide +kernel
def st (o s : Int) : List S54 := if s = 1 then [] else [⟨o, s - 1, []⟩]
theorem wrap_small (x : Int) (h : -1000 ≤ x) (h' : x ≤ 1000) : wrap64 x = x := Go.IntWalk.wrap64_in x (by omega)
theorem of_st (o s : Int) (hs : 1 ≤ s) : Si.ofS (mkOf (st o s)) o = ((o, s - 1, []), if s = 1 then -1 else 0) := by
  unfold st
  by_cases h : s = 1
  · subst h; rfl
  · rw [if_neg h, if_neg h]
    simp [mkOf, Si.ofS, Si.ixL]
theorem fresh_st (o s : Int) (ho : 1 ≤ o) (ho' : o ≤ 64) (hs : 1 ≤ s) (hs' : s ≤ 300) : order_Fresh.f (st o s) o s = some true := by
  unfold order_Fresh.f Si.freshS
  rw [of_st o s hs]
  unfold Si.freshR
  rw [wrap_small (s - 8) (by omega) (by omega)]
  simp
  omega
theorem note_st (o s : Int) (ho : 1 ≤ o) (ho' : o ≤ 64) (hs : 1 ≤ s) (hs' : s ≤ 300) : order_Note.f (st o s) o s = some (st o (s + 1)) := by
  have hf := fresh_st o s ho ho' hs hs'
  unfold order_Fresh.f at hf
  have hf' := Option.some.inj hf
  have hlow : Si.lowP (s - 1) (Si.insAt (fun x => decide (x > s)) s []) = (s, []) := by
    have e : Si.insAt (fun x : Int => decide (x > s)) s [] = [s] := rfl
    rw [e, Si.lowP, wrap_small (s - 1) (by omega) (by omega), if_pos rfl, wrap_small (s - 1 + 1) (by omega) (by omega), Si.lowP]
    congr 1; omega
  unfold order_Note.f
  rw [of_st o s hs]
  have hlen : (st o s).length ≤ 1 := by unfold st; split <;> simp
  rw [if_pos ⟨by omega, by simp⟩]
  unfold Si.noteS Si.noteM
  rw [hf', if_pos rfl, of_st o s hs, hlow]
  unfold st
  by_cases h : s = 1
  · subst h; rfl
  · rw [if_neg h, if_neg h, if_neg (show ¬ s + 1 = 1 by omega)]
    simp [mkOf, mkTo]
theorem runs_loop (o many : Int) (ho : 1 ≤ o) (ho' : o ≤ 64) (hm : many ≤ 300) : ∀ (n : Nat) (s : Int) (k : Nat), 1 ≤ s → many + 1 ≤ s + n → (s = 1 ∨ s ≤ many + 1) → n < k → selvedgelaw14_OrderRuns.l0 k o many true (st o s) s = some true
  | n, s, 0, _, _, _, hk => by omega
  | n, s, k + 1, hs, hn, hs2, hk => by
    unfold selvedgelaw14_OrderRuns.l0
    by_cases h : s ≤ many
    · rw [if_pos h, fresh_st o s ho ho' hs (by omega)]
      simp only [Option.bind_some, if_true]
      rw [note_st o s ho ho' hs (by omega)]
      simp only [Option.bind_some]
      rw [wrap_small (s + 1) (by omega) (by omega)]
      cases n with
      | zero => omega
      | succ n => exact runs_loop o many ho ho' hm n (s + 1) k (by omega) (by omega) (.inr (by omega)) (by omega)
    · rw [if_neg h, if_pos rfl]
      by_cases h1 : many < 1
      · rw [if_pos h1]
      · rw [if_neg h1]
        have hs3 : s = many + 1 := by omega
        subst hs3
        unfold st
        rw [if_neg (show ¬ many + 1 = 1 by omega)]
        simp [rd_T54]
theorem OrderRuns : selvedgelaw14_OrderRuns.Pure := by
  intro a0 a1 _ _ _
  refine ⟨400, ?_⟩
  unfold selvedgelaw14_OrderRuns.f
  rw [shown_true]
  simp only [Option.bind_some]
  have hj : selvedgelaw14_OrderRuns.j0 400 a0 a1 true true = some true := rfl
  by_cases h1 : a0 < 1
  · rw [if_pos h1]; exact hj
  · rw [if_neg h1]
    by_cases h2 : a0 > 64
    · rw [if_pos h2]; exact hj
    · rw [if_neg h2]
      by_cases h3 : a1 > 300
      · rw [decide_eq_true h3]; exact hj
      · rw [decide_eq_false h3]
        show (if false = true then some true else selvedgelaw14_OrderRuns.l0 399 a0 a1 true [] 1) = some true
        rw [if_neg (by decide)]
        exact runs_loop a0 a1 (by omega) (by omega) (by omega) 300 1 399 (by omega) (by omega) (.inl rfl) (by omega)
end Go.Proofs.Ytcbfnmabckjijaa.Pure
