/- Proved: the pure half of the law GaussAdds of chapter 3 (what the walked program computes is 'true'). Conditions: those of its row, no other. -/
import Derived.Test.YtokkkeepifpbpaaArgGaussAdds
import Derived.Test.YtokkkeepifpbpaaGm
import Derived.IntWalk
namespace Go.Proofs.Ytokkkeepifpbpaa.Pure
open Go.IntWalk Go.RowKit Go.Proofs.Ytokkkeepifpbpaa.PGaussAdds Go.Proofs.YtokkkeepifpbpaaW.PrintWords Go.Proofs.YtokkkeepifpbpaaW.PrintLast

theorem may (a b : Int) : gauss_May.f a b = some (decide (Gm.Ok (a, b))) := by
  have e : Gm.Ok (a, b) ↔ 0 ≤ a ∧ a < 10007 ∧ 0 ≤ b ∧ b < 10007 := Iff.rfl
  unfold gauss_May.f
  by_cases h1 : a ≥ 0
  · by_cases h2 : a < 10007
    · by_cases h3 : b ≥ 0
      · rw [if_pos h1, if_pos h2, if_pos h3, Option.some.injEq, decide_eq_decide, e]
        omega
      · rw [if_pos h1, if_pos h2, if_neg h3, decide_eq_false (fun h => by rw [e] at h; omega)]
    · rw [if_pos h1, if_neg h2, decide_eq_false (fun h => by rw [e] at h; omega)]
  · rw [if_neg h1, decide_eq_false (fun h => by rw [e] at h; omega)]
theorem of_ (n : Int) (h : 0 ≤ n) (h2 : n < 18446744073709551616) : gauss_Of.f n = some (n % 10007, n / 10007 % 10007) := by
  have e1 : Int.tdiv n 10007 = n / 10007 := Int.tdiv_eq_ediv_of_nonneg h
  have e2 : IntKind.u64.wrap (n / 10007) = n / 10007 := by unfold IntKind.wrap; simp only [IntKind.signed, IntKind.bits, Bool.false_and, Bool.false_eq_true, if_false]; omega
  have e3 : Int.tmod n 10007 = n % 10007 := Int.tmod_eq_emod_of_nonneg h
  have e4 : Int.tmod (n / 10007) 10007 = n / 10007 % 10007 := Int.tmod_eq_emod_of_nonneg (by omega)
  unfold gauss_Of.f
  rw [e1, e2, e3, e4, wrap64_in _ (by omega), wrap64_in _ (by omega)]
theorem mulF (a b c d : Int) (h : Gm.Ok (a, b)) (h2 : Gm.Ok (c, d)) : gauss_Mul.f a b c d = some (Gm.mul (a, b) (c, d)) := by
  unfold gauss_Mul.f Fl.opE
  rw [if_pos ⟨h, h2⟩]
theorem mulE {x y : Gm.E} (h : Gm.Ok x) (h2 : Gm.Ok y) : gauss_Mul.f x.1 x.2 y.1 y.2 = some (Gm.mul x y) := mulF x.1 x.2 y.1 y.2 h h2
theorem mulN (a b c d : Int) (h : ¬ (Gm.Ok (a, b) ∧ Gm.Ok (c, d))) : gauss_Mul.f a b c d = some (0, 0) := by
  unfold gauss_Mul.f Fl.opE
  rw [if_neg h]
theorem powF (a b n : Int) (h : Gm.Ok (a, b)) (h0 : 0 ≤ n) (h2 : n < 18446744073709551616) : gauss_Pow.f a b n = some (Gm.pow (a, b) n.toNat) := by
  unfold gauss_Pow.f Fl.powE
  rw [if_pos ⟨h0, h2⟩, if_pos h]
theorem powN (a b n : Int) (h : ¬ Gm.Ok (a, b)) (h0 : 0 ≤ n) (h2 : n < 18446744073709551616) : gauss_Pow.f a b n = some (0, 0) := by
  unfold gauss_Pow.f Fl.powE
  rw [if_pos ⟨h0, h2⟩, if_neg h]
theorem powNN (a b : Int) (h : Gm.Ok (a, b)) : gauss_Pow.f a b 100140047 = some (Gm.pow (a, b) Gm.NN) := powF a b 100140047 h (by decide) (by decide)
theorem powNN1 (a b : Int) (h : Gm.Ok (a, b)) : gauss_Pow.f a b 100140048 = some (Gm.pow (a, b) (Gm.NN + 1)) := powF a b 100140048 h (by decide) (by decide)
theorem powPP (a b : Int) (h : Gm.Ok (a, b)) : gauss_Pow.f a b 10007 = some (Gm.pow (a, b) Gm.PP) := powF a b 10007 h (by decide) (by decide)
theorem zz (a b : Int) : (a == 0 && b == 0) = decide ((a, b) = ((0, 0) : Gm.E)) := by
  rw [Bool.eq_iff_iff]; simp
theorem invF (a b : Int) (h : Gm.Ok (a, b)) (h0 : (a, b) ≠ ((0, 0) : Gm.E)) : gauss_Inv.f a b = some ((Gm.pow (a, b) Gm.NN).1, (Gm.pow (a, b) Gm.NN).2, 0) := by
  unfold gauss_Inv.f
  rw [may, Option.bind_some, if_pos (by simpa using h), zz, if_neg (by simpa using h0), powNN a b h, Option.bind_some]
theorem invE {x : Gm.E} (h : Gm.Ok x) (h0 : x ≠ (0, 0)) : gauss_Inv.f x.1 x.2 = some ((Gm.pow x Gm.NN).1, (Gm.pow x Gm.NN).2, 0) := invF x.1 x.2 h h0
theorem inv0 : gauss_Inv.f 0 0 = some (0, 0, 1) := by
  unfold gauss_Inv.f
  rw [may, Option.bind_some, if_pos (by decide), zz, if_pos (by decide)]
theorem invN (a b : Int) (h : ¬ Gm.Ok (a, b)) : gauss_Inv.f a b = some (0, 0, 1) := by
  unfold gauss_Inv.f
  rw [may, Option.bind_some, if_neg (by simpa using h)]
theorem eqE (x : Gm.E) (a b : Int) : (x.1 == a && x.2 == b) = decide (x = (a, b)) := by
  rw [Bool.eq_iff_iff]
  obtain ⟨u, v⟩ := x
  simp
theorem eqE' (a b c d : Int) : (a == c && b == d) = decide (((a, b) : Gm.E) = (c, d)) := by
  rw [Bool.eq_iff_iff]; simp
theorem two_inv : Gm.pow (2, 0) Gm.NN = (5004, 0) :=
  Gm.inv_unique (Gm.pow_ok _ _) (by decide) (Gm.mul_inv (by decide) (by decide)) (by decide)
theorem shown : selvedgelaw03_shown.f = some true := by
  unfold selvedgelaw03_shown.f
  rw [mulF 0 1 0 1 (by decide) (by decide), Option.bind_some, invF 2 0 (by decide) (by decide), two_inv, Option.bind_some, of_ 10008 (by decide) (by decide), Option.bind_some]
  decide
theorem rmay (a b : Int) : selvedgeref03_May.f a b = some (decide (Gm.Ok (a, b))) := by
  have e : Gm.Ok (a, b) ↔ 0 ≤ a ∧ a < 10007 ∧ 0 ≤ b ∧ b < 10007 := Iff.rfl
  unfold selvedgeref03_May.f
  by_cases h1 : a ≥ 0
  · by_cases h2 : a < 10007
    · by_cases h3 : b ≥ 0
      · rw [if_pos h1, if_pos h2, if_pos h3, Option.some.injEq, decide_eq_decide, e]
        omega
      · rw [if_pos h1, if_pos h2, if_neg h3, decide_eq_false (fun h => by rw [e] at h; omega)]
    · rw [if_pos h1, if_neg h2, decide_eq_false (fun h => by rw [e] at h; omega)]
  · rw [if_neg h1, decide_eq_false (fun h => by rw [e] at h; omega)]
theorem addF (a b c d : Int) (h : Gm.Ok (a, b)) (h2 : Gm.Ok (c, d)) : gauss_Add.f a b c d = some (Gm.add (a, b) (c, d)) := by
  unfold gauss_Add.f Fl.opE
  rw [if_pos ⟨h, h2⟩]
theorem addE {x y : Gm.E} (h : Gm.Ok x) (h2 : Gm.Ok y) : gauss_Add.f x.1 x.2 y.1 y.2 = some (Gm.add x y) := addF x.1 x.2 y.1 y.2 h h2
theorem addN (a b c d : Int) (h : ¬ (Gm.Ok (a, b) ∧ Gm.Ok (c, d))) : gauss_Add.f a b c d = some (0, 0) := by
  unfold gauss_Add.f Fl.opE
  rw [if_neg h]
theorem subF (a b c d : Int) (h : Gm.Ok (a, b)) (h2 : Gm.Ok (c, d)) : gauss_Sub.f a b c d = some (Gm.sub (a, b) (c, d)) := by
  unfold gauss_Sub.f Fl.opE
  rw [if_pos ⟨h, h2⟩]
theorem subE {x y : Gm.E} (h : Gm.Ok x) (h2 : Gm.Ok y) : gauss_Sub.f x.1 x.2 y.1 y.2 = some (Gm.sub x y) := subF x.1 x.2 y.1 y.2 h h2
theorem subN (a b c d : Int) (h : ¬ (Gm.Ok (a, b) ∧ Gm.Ok (c, d))) : gauss_Sub.f a b c d = some (0, 0) := by
  unfold gauss_Sub.f Fl.opE
  rw [if_neg h]
theorem raddF (a b c d : Int) (h : Gm.Ok (a, b)) (h2 : Gm.Ok (c, d)) : selvedgeref03_Add.f a b c d = some (Gm.add (a, b) (c, d)) := by
  have h1' := h
  have h2' := h2
  unfold Gm.Ok at h1' h2'
  simp only at h1' h2'
  unfold selvedgeref03_Add.f Gm.add Gm.gadd Gm.red
  rw [rmay, rmay]
  simp only [Option.bind_some, h, h2, decide_true, if_true]
  rw [wrap64_in _ (by omega), wrap64_in _ (by omega), Int.tmod_eq_emod_of_nonneg (by omega), Int.tmod_eq_emod_of_nonneg (by omega)]
theorem raddN (a b c d : Int) (h : ¬ (Gm.Ok (a, b) ∧ Gm.Ok (c, d))) : selvedgeref03_Add.f a b c d = some (0, 0) := by
  unfold selvedgeref03_Add.f
  rw [rmay, rmay]
  simp only [Option.bind_some, decide_eq_true_eq]
  by_cases h1 : Gm.Ok (a, b)
  · rw [if_pos h1, if_neg (fun h2 => h ⟨h1, h2⟩)]
  · rw [if_neg h1]
theorem rsubF (a b c d : Int) (h : Gm.Ok (a, b)) (h2 : Gm.Ok (c, d)) : selvedgeref03_Sub.f a b c d = some (Gm.sub (a, b) (c, d)) := by
  have h1' := h
  have h2' := h2
  unfold Gm.Ok at h1' h2'
  simp only at h1' h2'
  unfold selvedgeref03_Sub.f Gm.sub Gm.gsub Gm.red
  rw [rmay, rmay]
  simp only [Option.bind_some, h, h2, decide_true, if_true]
  rw [wrap64_in (a + 10007) (by omega), wrap64_in (b + 10007) (by omega), wrap64_in _ (by omega), wrap64_in _ (by omega), Int.tmod_eq_emod_of_nonneg (by omega), Int.tmod_eq_emod_of_nonneg (by omega)]
  congr 2 <;> omega
theorem rsubN (a b c d : Int) (h : ¬ (Gm.Ok (a, b) ∧ Gm.Ok (c, d))) : selvedgeref03_Sub.f a b c d = some (0, 0) := by
  unfold selvedgeref03_Sub.f
  rw [rmay, rmay]
  simp only [Option.bind_some, decide_eq_true_eq]
  by_cases h1 : Gm.Ok (a, b)
  · rw [if_pos h1, if_neg (fun h2 => h ⟨h1, h2⟩)]
  · rw [if_neg h1]
theorem GaussAdds : selvedgelaw03_GaussAdds.Pure := by
  intro x y _ _
  unfold selvedgelaw03_GaussAdds.f
  rw [shown, Option.bind_some, if_pos rfl, may, Option.bind_some, rmay, Option.bind_some, if_pos (by simp)]
  by_cases h : Gm.Ok (x.f0, x.f1) ∧ Gm.Ok (y.f0, y.f1)
  · rw [addF _ _ _ _ h.1 h.2, raddF _ _ _ _ h.1 h.2, subF _ _ _ _ h.1 h.2, rsubF _ _ _ _ h.1 h.2]
    simp
  · rw [addN _ _ _ _ h, raddN _ _ _ _ h, subN _ _ _ _ h, rsubN _ _ _ _ h]
    simp

end Go.Proofs.Ytokkkeepifpbpaa.Pure
