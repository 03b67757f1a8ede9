import Derived.Test.YtopijobdblfhoaaGreatVTuskChainsPj
set_option linter.unusedVariables false
/- Trimmed by a program. By an AI agent. -/
namespace Go.Proofs.YtopijobdblfhoaaGreatW.PrintWords
open Go.RowKit Go.Proofs.YtopijobdblfhoaaGreatW.PrintLast Go.Proofs.YtopijobdblfhoaaGreatW.PrintMore
section
variable {P : Program} {ops : Array Oper} {Q : Exit → Act → World → Prop} {md : Region.Mode} {S : World → Prop} {ds : List Nat} {oi : Oper} {v : Value} {fuel : Nat} {l l' : Array Bool} {a a' : Act} {w : World}
theorem pz_ (i : Nat) (N : Option Tmp) (m : Nat)
  (hi : ops[i]? = some oi := by exact rfl) (hN : oi.dst = N := by exact rfl) (hc : anyB md ops l (bts ops.size m) i = true := by kernel_rfl) (hQ : ∀ c a w, Q (.panic c) (a.put oi.dst v) w → Q (.panic c) a w := by exact fun _ _ _ h => h)
  (hw : Region.wanted oi (yielded ops a.tmps) = true := by rfl) (hy : ∀ w', (execOp a.eval oi).run P w' = .ok (.value v) w' := by intro w'; go_simp; with_reducible rfl)
  (ha : a.put N v = a' := by simp only [Act.put, List.setIfInBounds_toArray, List.set_cons_zero, List.set_cons_succ, Qay, Qa3]; rfl)
  (h : Qai P md ops Q S ds fuel (bts ops.size m) a' w) : Qai P md ops Q S ds (fuel + 1) l a w :=
 Qjd _ hi hN hc hQ (Or.inl ⟨hw, hy⟩) ha h
theorem tz_ (i : Nat) (N : Option Tmp) (m : Nat) (hS : S w)
  (hi : ops[i]? = some oi := by exact rfl) (hN : oi.dst = N := by exact rfl) (hc : takeB md ops ds l (bts ops.size m) i = true := by kernel_rfl) (hQ : ∀ c a w, Q (.panic c) (a.put oi.dst v) w → Q (.panic c) a w := by exact fun _ _ _ h => h)
  (hw : Region.wanted oi (yielded ops a.tmps) = true := by rfl) (hy : ∀ w', S w' → (execOp a.eval oi).run P w' = .ok (.value v) w' := by intro w' hs_; (repeat (obtain ⟨_, hs_⟩ := hs_)); go_simp; with_reducible rfl)
  (ha : a.put N v = a' := by simp only [Act.put, List.setIfInBounds_toArray, List.set_cons_zero, List.set_cons_succ, Qay, Qa3]; rfl)
  (h : Qai P md ops Q S ds fuel (bts ops.size m) a' w) : Qai P md ops Q S ds (fuel + 1) l a w :=
 take_ _ hi hN hc hQ (Or.inl ⟨hw, hy⟩) hS ha h
end
end Go.Proofs.YtopijobdblfhoaaGreatW.PrintWords
