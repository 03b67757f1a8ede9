/- Proved: the pure half of the law GaussField of chapter 3 (what the walked program computes is 'true'). Conditions: those of its row, no other. -/
import Derived.Test.YtokkkeepifpbpaaArgGaussField
import Derived.Test.YtokkkeepifpbpaaGm
import Derived.IntWalk
namespace Go.Proofs.Ytokkkeepifpbpaa.Pure
open Go.IntWalk Go.RowKit Go.Proofs.Ytokkkeepifpbpaa.PGaussField Go.Proofs.YtokkkeepifpbpaaW.PrintWords Go.Proofs.YtokkkeepifpbpaaW.PrintLast

theorem may (a b : Int) : gauss_May.f a b = some (decide (Gm.Ok (a, b))) := by
  have e : Gm.Ok (a, b) ↔ 0 ≤ a ∧ a < 10007 ∧ 0 ≤ b ∧ b < 10007 := Iff.rfl
  unfold gauss_May.f
  by_cases h1 : a ≥ 0
  · by_cases h2 : a < 10007
    · by_cases h3 : b ≥ 0
      · rw [if_pos h1, if_pos h2, if_pos h3, Option.some.injEq, decide_eq_decide, e]
        omega
      · rw [if_pos h1, if_pos h2, if_neg h3, decide_eq_false (fun h => by rw [e] at h; omega)]
    · rw [if_pos h1, if_neg h2, decide_eq_false (fun h => by rw [e] at h; omega)]
  · rw [if_neg h1, decide_eq_false (fun h => by rw [e] at h; omega)]
theorem of_ (n : Int) (h : 0 ≤ n) (h2 : n < 18446744073709551616) : gauss_Of.f n = some (n % 10007, n / 10007 % 10007) := by
  have e1 : Int.tdiv n 10007 = n / 10007 := Int.tdiv_eq_ediv_of_nonneg h
  have e2 : IntKind.u64.wrap (n / 10007) = n / 10007 := by unfold IntKind.wrap; simp only [IntKind.signed, IntKind.bits, Bool.false_and, Bool.false_eq_true, if_false]; omega
  have e3 : Int.tmod n 10007 = n % 10007 := Int.tmod_eq_emod_of_nonneg h
  have e4 : Int.tmod (n / 10007) 10007 = n / 10007 % 10007 := Int.tmod_eq_emod_of_nonneg (by omega)
  unfold gauss_Of.f
  rw [e1, e2, e3, e4, wrap64_in _ (by omega), wrap64_in _ (by omega)]
theorem mulF (a b c d : Int) (h : Gm.Ok (a, b)) (h2 : Gm.Ok (c, d)) : gauss_Mul.f a b c d = some (Gm.mul (a, b) (c, d)) := by
  unfold gauss_Mul.f Fl.opE
  rw [if_pos ⟨h, h2⟩]
theorem mulE {x y : Gm.E} (h : Gm.Ok x) (h2 : Gm.Ok y) : gauss_Mul.f x.1 x.2 y.1 y.2 = some (Gm.mul x y) := mulF x.1 x.2 y.1 y.2 h h2
theorem mulN (a b c d : Int) (h : ¬ (Gm.Ok (a, b) ∧ Gm.Ok (c, d))) : gauss_Mul.f a b c d = some (0, 0) := by
  unfold gauss_Mul.f Fl.opE
  rw [if_neg h]
theorem powF (a b n : Int) (h : Gm.Ok (a, b)) (h0 : 0 ≤ n) (h2 : n < 18446744073709551616) : gauss_Pow.f a b n = some (Gm.pow (a, b) n.toNat) := by
  unfold gauss_Pow.f Fl.powE
  rw [if_pos ⟨h0, h2⟩, if_pos h]
theorem powN (a b n : Int) (h : ¬ Gm.Ok (a, b)) (h0 : 0 ≤ n) (h2 : n < 18446744073709551616) : gauss_Pow.f a b n = some (0, 0) := by
  unfold gauss_Pow.f Fl.powE
  rw [if_pos ⟨h0, h2⟩, if_neg h]
theorem powNN (a b : Int) (h : Gm.Ok (a, b)) : gauss_Pow.f a b 100140047 = some (Gm.pow (a, b) Gm.NN) := powF a b 100140047 h (by decide) (by decide)
theorem powNN1 (a b : Int) (h : Gm.Ok (a, b)) : gauss_Pow.f a b 100140048 = some (Gm.pow (a, b) (Gm.NN + 1)) := powF a b 100140048 h (by decide) (by decide)
theorem powPP (a b : Int) (h : Gm.Ok (a, b)) : gauss_Pow.f a b 10007 = some (Gm.pow (a, b) Gm.PP) := powF a b 10007 h (by decide) (by decide)
theorem zz (a b : Int) : (a == 0 && b == 0) = decide ((a, b) = ((0, 0) : Gm.E)) := by
  rw [Bool.eq_iff_iff]; simp
theorem invF (a b : Int) (h : Gm.Ok (a, b)) (h0 : (a, b) ≠ ((0, 0) : Gm.E)) : gauss_Inv.f a b = some ((Gm.pow (a, b) Gm.NN).1, (Gm.pow (a, b) Gm.NN).2, 0) := by
  unfold gauss_Inv.f
  rw [may, Option.bind_some, if_pos (by simpa using h), zz, if_neg (by simpa using h0), powNN a b h, Option.bind_some]
theorem invE {x : Gm.E} (h : Gm.Ok x) (h0 : x ≠ (0, 0)) : gauss_Inv.f x.1 x.2 = some ((Gm.pow x Gm.NN).1, (Gm.pow x Gm.NN).2, 0) := invF x.1 x.2 h h0
theorem inv0 : gauss_Inv.f 0 0 = some (0, 0, 1) := by
  unfold gauss_Inv.f
  rw [may, Option.bind_some, if_pos (by decide), zz, if_pos (by decide)]
theorem invN (a b : Int) (h : ¬ Gm.Ok (a, b)) : gauss_Inv.f a b = some (0, 0, 1) := by
  unfold gauss_Inv.f
  rw [may, Option.bind_some, if_neg (by simpa using h)]
theorem eqE (x : Gm.E) (a b : Int) : (x.1 == a && x.2 == b) = decide (x = (a, b)) := by
  rw [Bool.eq_iff_iff]
  obtain ⟨u, v⟩ := x
  simp
theorem eqE' (a b c d : Int) : (a == c && b == d) = decide (((a, b) : Gm.E) = (c, d)) := by
  rw [Bool.eq_iff_iff]; simp
theorem two_inv : Gm.pow (2, 0) Gm.NN = (5004, 0) :=
  Gm.inv_unique (Gm.pow_ok _ _) (by decide) (Gm.mul_inv (by decide) (by decide)) (by decide)
theorem shown : selvedgelaw03_shown.f = some true := by
  unfold selvedgelaw03_shown.f
  rw [mulF 0 1 0 1 (by decide) (by decide), Option.bind_some, invF 2 0 (by decide) (by decide), two_inv, Option.bind_some, of_ 10008 (by decide) (by decide), Option.bind_some]
  decide
theorem j (a b c d : Int) (k : Nat) (h : Gm.Ok (a, b)) (h2 : Gm.Ok (c, d)) : selvedgelaw03_GaussField.j0 (k + 1) true false a b c d = some true := by
  rw [selvedgelaw03_GaussField.j0, if_neg (by decide)]
  by_cases h0 : (a, b) = ((0, 0) : Gm.E)
  · obtain ⟨rfl, rfl⟩ := Prod.mk.inj h0
    rw [inv0, Option.bind_some, if_pos (by decide)]; rfl
  · have ho := Gm.pow_ok (a, b) Gm.NN
    have hi := Gm.mul_inv h h0
    rw [invF a b h h0, Option.bind_some, zz, if_neg (by simpa using h0), mulF a b c d h h2, Option.bind_some]
    simp only
    rw [if_pos (by simp), mulE h ho, Option.bind_some, hi, if_pos (by decide)]
    simp only [eqE', Option.bind_some]
    rw [if_pos ?_]
    · have e := Gm.mul_zero_iff h h2
      simp only [h0, false_or] at e
      simp [e]
    · rw [beq_iff_eq, decide_eq_decide]
      constructor
      · intro h1
        exact Gm.inv_unique h2 ho h1 hi
      · intro h1
        rw [h1]; exact hi
theorem GaussField : selvedgelaw03_GaussField.Pure := by
  intro x y _ _
  refine ⟨1, ?_⟩
  unfold selvedgelaw03_GaussField.f
  rw [shown, Option.bind_some, if_pos rfl, may, Option.bind_some, may]
  by_cases h : Gm.Ok (x.f0, x.f1)
  · rw [if_pos (by simpa using h), Option.bind_some]
    by_cases h2 : Gm.Ok (y.f0, y.f1)
    · rw [decide_eq_true h2]; exact j _ _ _ _ 0 h h2
    · rw [decide_eq_false h2]; rfl
  · rw [if_neg (by simpa using h)]; rfl

end Go.Proofs.Ytokkkeepifpbpaa.Pure
