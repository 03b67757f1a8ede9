/- Proved: the pure half of the law GaussPows of chapter 3 (what the walked program computes is 'true'). Conditions: those of its row, no other. -/
import Derived.Test.YtokkkeepifpbpaaArgGaussPows
import Derived.Test.YtokkkeepifpbpaaGm
import Derived.IntWalk
namespace Go.Proofs.Ytokkkeepifpbpaa.Pure
open Go.IntWalk Go.RowKit Go.Proofs.Ytokkkeepifpbpaa.PGaussPows Go.Proofs.YtokkkeepifpbpaaW.PrintWords Go.Proofs.YtokkkeepifpbpaaW.PrintLast

theorem may (a b : Int) : gauss_May.f a b = some (decide (Gm.Ok (a, b))) := by
  have e : Gm.Ok (a, b) ↔ 0 ≤ a ∧ a < 10007 ∧ 0 ≤ b ∧ b < 10007 := Iff.rfl
  unfold gauss_May.f
  by_cases h1 : a ≥ 0
  · by_cases h2 : a < 10007
    · by_cases h3 : b ≥ 0
      · rw [if_pos h1, if_pos h2, if_pos h3, Option.some.injEq, decide_eq_decide, e]
        omega
      · rw [if_pos h1, if_pos h2, if_neg h3, decide_eq_false (fun h => by rw [e] at h; omega)]
    · rw [if_pos h1, if_neg h2, decide_eq_false (fun h => by rw [e] at h; omega)]
  · rw [if_neg h1, decide_eq_false (fun h => by rw [e] at h; omega)]
theorem of_ (n : Int) (h : 0 ≤ n) (h2 : n < 18446744073709551616) : gauss_Of.f n = some (n % 10007, n / 10007 % 10007) := by
  have e1 : Int.tdiv n 10007 = n / 10007 := Int.tdiv_eq_ediv_of_nonneg h
  have e2 : IntKind.u64.wrap (n / 10007) = n / 10007 := by unfold IntKind.wrap; simp only [IntKind.signed, IntKind.bits, Bool.false_and, Bool.false_eq_true, if_false]; omega
  have e3 : Int.tmod n 10007 = n % 10007 := Int.tmod_eq_emod_of_nonneg h
  have e4 : Int.tmod (n / 10007) 10007 = n / 10007 % 10007 := Int.tmod_eq_emod_of_nonneg (by omega)
  unfold gauss_Of.f
  rw [e1, e2, e3, e4, wrap64_in _ (by omega), wrap64_in _ (by omega)]
theorem mulF (a b c d : Int) (h : Gm.Ok (a, b)) (h2 : Gm.Ok (c, d)) : gauss_Mul.f a b c d = some (Gm.mul (a, b) (c, d)) := by
  unfold gauss_Mul.f Fl.opE
  rw [if_pos ⟨h, h2⟩]
theorem mulE {x y : Gm.E} (h : Gm.Ok x) (h2 : Gm.Ok y) : gauss_Mul.f x.1 x.2 y.1 y.2 = some (Gm.mul x y) := mulF x.1 x.2 y.1 y.2 h h2
theorem mulN (a b c d : Int) (h : ¬ (Gm.Ok (a, b) ∧ Gm.Ok (c, d))) : gauss_Mul.f a b c d = some (0, 0) := by
  unfold gauss_Mul.f Fl.opE
  rw [if_neg h]
theorem powF (a b n : Int) (h : Gm.Ok (a, b)) (h0 : 0 ≤ n) (h2 : n < 18446744073709551616) : gauss_Pow.f a b n = some (Gm.pow (a, b) n.toNat) := by
  unfold gauss_Pow.f Fl.powE
  rw [if_pos ⟨h0, h2⟩, if_pos h]
theorem powN (a b n : Int) (h : ¬ Gm.Ok (a, b)) (h0 : 0 ≤ n) (h2 : n < 18446744073709551616) : gauss_Pow.f a b n = some (0, 0) := by
  unfold gauss_Pow.f Fl.powE
  rw [if_pos ⟨h0, h2⟩, if_neg h]
theorem powNN (a b : Int) (h : Gm.Ok (a, b)) : gauss_Pow.f a b 100140047 = some (Gm.pow (a, b) Gm.NN) := powF a b 100140047 h (by decide) (by decide)
theorem powNN1 (a b : Int) (h : Gm.Ok (a, b)) : gauss_Pow.f a b 100140048 = some (Gm.pow (a, b) (Gm.NN + 1)) := powF a b 100140048 h (by decide) (by decide)
theorem powPP (a b : Int) (h : Gm.Ok (a, b)) : gauss_Pow.f a b 10007 = some (Gm.pow (a, b) Gm.PP) := powF a b 10007 h (by decide) (by decide)
theorem zz (a b : Int) : (a == 0 && b == 0) = decide ((a, b) = ((0, 0) : Gm.E)) := by
  rw [Bool.eq_iff_iff]; simp
theorem invF (a b : Int) (h : Gm.Ok (a, b)) (h0 : (a, b) ≠ ((0, 0) : Gm.E)) : gauss_Inv.f a b = some ((Gm.pow (a, b) Gm.NN).1, (Gm.pow (a, b) Gm.NN).2, 0) := by
  unfold gauss_Inv.f
  rw [may, Option.bind_some, if_pos (by simpa using h), zz, if_neg (by simpa using h0), powNN a b h, Option.bind_some]
theorem invE {x : Gm.E} (h : Gm.Ok x) (h0 : x ≠ (0, 0)) : gauss_Inv.f x.1 x.2 = some ((Gm.pow x Gm.NN).1, (Gm.pow x Gm.NN).2, 0) := invF x.1 x.2 h h0
theorem inv0 : gauss_Inv.f 0 0 = some (0, 0, 1) := by
  unfold gauss_Inv.f
  rw [may, Option.bind_some, if_pos (by decide), zz, if_pos (by decide)]
theorem invN (a b : Int) (h : ¬ Gm.Ok (a, b)) : gauss_Inv.f a b = some (0, 0, 1) := by
  unfold gauss_Inv.f
  rw [may, Option.bind_some, if_neg (by simpa using h)]
theorem eqE (x : Gm.E) (a b : Int) : (x.1 == a && x.2 == b) = decide (x = (a, b)) := by
  rw [Bool.eq_iff_iff]
  obtain ⟨u, v⟩ := x
  simp
theorem eqE' (a b c d : Int) : (a == c && b == d) = decide (((a, b) : Gm.E) = (c, d)) := by
  rw [Bool.eq_iff_iff]; simp
theorem two_inv : Gm.pow (2, 0) Gm.NN = (5004, 0) :=
  Gm.inv_unique (Gm.pow_ok _ _) (by decide) (Gm.mul_inv (by decide) (by decide)) (by decide)
theorem shown : selvedgelaw03_shown.f = some true := by
  unfold selvedgelaw03_shown.f
  rw [mulF 0 1 0 1 (by decide) (by decide), Option.bind_some, invF 2 0 (by decide) (by decide), two_inv, Option.bind_some, of_ 10008 (by decide) (by decide), Option.bind_some]
  decide
theorem rmay (a b : Int) : selvedgeref03_May.f a b = some (decide (Gm.Ok (a, b))) := by
  have e : Gm.Ok (a, b) ↔ 0 ≤ a ∧ a < 10007 ∧ 0 ≤ b ∧ b < 10007 := Iff.rfl
  unfold selvedgeref03_May.f
  by_cases h1 : a ≥ 0
  · by_cases h2 : a < 10007
    · by_cases h3 : b ≥ 0
      · rw [if_pos h1, if_pos h2, if_pos h3, Option.some.injEq, decide_eq_decide, e]
        omega
      · rw [if_pos h1, if_pos h2, if_neg h3, decide_eq_false (fun h => by rw [e] at h; omega)]
    · rw [if_pos h1, if_neg h2, decide_eq_false (fun h => by rw [e] at h; omega)]
  · rw [if_neg h1, decide_eq_false (fun h => by rw [e] at h; omega)]
theorem bp (a c : Int) (h0 : 0 ≤ a) (h1 : a < 10007) (h2 : 0 ≤ c) (h3 : c < 10007) : 0 ≤ a * c ∧ a * c ≤ 100120036 :=
  ⟨Int.mul_nonneg h0 h2, Int.le_trans (Int.mul_le_mul (show a ≤ 10006 by omega) (show c ≤ 10006 by omega) h2 (by omega)) (by decide)⟩
theorem rmulF (a b c d : Int) (h : Gm.Ok (a, b)) (h2 : Gm.Ok (c, d)) : selvedgeref03_Mul.f a b c d = some (Gm.mul (a, b) (c, d)) := by
  have p1 := bp a c h.1 h.2.1 h2.1 h2.2.1
  have p2 := bp b d h.2.2.1 h.2.2.2 h2.2.2.1 h2.2.2.2
  have p3 := bp a d h.1 h.2.1 h2.2.2.1 h2.2.2.2
  have p4 := bp b c h.2.2.1 h.2.2.2 h2.1 h2.2.1
  unfold selvedgeref03_Mul.f Gm.mul Gm.gmul Gm.red
  rw [rmay, rmay]
  simp only [Option.bind_some, h, h2, decide_true, if_true]
  generalize a * c = u at *
  generalize b * d = v at *
  generalize a * d = s at *
  generalize b * c = t at *
  rw [wrap64_in u (by omega), wrap64_in v (by omega), wrap64_in s (by omega), wrap64_in t (by omega), wrap64_in (u + 100140049) (by omega), wrap64_in _ (by omega), wrap64_in _ (by omega), Int.tmod_eq_emod_of_nonneg (by omega), Int.tmod_eq_emod_of_nonneg (by omega)]
  congr 2
  omega
theorem rmulN (a b c d : Int) (h : ¬ (Gm.Ok (a, b) ∧ Gm.Ok (c, d))) : selvedgeref03_Mul.f a b c d = some (0, 0) := by
  unfold selvedgeref03_Mul.f
  rw [rmay, rmay]
  simp only [Option.bind_some, decide_eq_true_eq]
  by_cases h1 : Gm.Ok (a, b)
  · rw [if_pos h1, if_neg (fun h2 => h ⟨h1, h2⟩)]
  · rw [if_neg h1]
theorem rof (n : Int) (h : 0 ≤ n) (h2 : n < 18446744073709551616) : selvedgeref03_Of.f n = some (n % 10007, n / 10007 % 10007) := by
  have e1 : Int.tdiv n 10007 = n / 10007 := Int.tdiv_eq_ediv_of_nonneg h
  have e2 : IntKind.u64.wrap (n / 10007) = n / 10007 := by unfold IntKind.wrap; simp only [IntKind.signed, IntKind.bits, Bool.false_and, Bool.false_eq_true, if_false]; omega
  have e3 : Int.tmod n 10007 = n % 10007 := Int.tmod_eq_emod_of_nonneg h
  have e4 : Int.tmod (n / 10007) 10007 = n / 10007 % 10007 := Int.tmod_eq_emod_of_nonneg (by omega)
  unfold selvedgeref03_Of.f
  rw [e1, e2, e3, e4, wrap64_in _ (by omega), wrap64_in _ (by omega)]
theorem wf_u64 {n : Int} (h : (Lit.int .u64 n).wf = true) : 0 ≤ n := by
  simp [Lit.wf, IntKind.min, IntKind.max, IntKind.signed, IntKind.bits] at h
  omega
theorem wf_u64' {n : Int} (h : (Lit.int .u64 n).wf = true) : n < 18446744073709551616 := by
  simp [Lit.wf, IntKind.min, IntKind.max, IntKind.signed, IntKind.bits] at h
  omega
theorem pow_one {x : Gm.E} (h : Gm.Ok x) : Gm.pow x 1 = x := by unfold Gm.pow; rw [Gm.gpow_one, Gm.red_of_ok h]
theorem loop (m : Nat) : ∀ (k : Nat) (a b c d : Int), m < 2 ^ k → m < 18446744073709551616 → Gm.Ok (a, b) → Gm.Ok (c, d) → selvedgeref03_Pow.l0 (k + 1) m a b c d = some (Gm.mul (c, d) (Gm.pow (a, b) m)) := by
  induction m using Nat.strongRecOn with
  | _ m ih =>
    intro k a b c d hk hm h h2
    rw [selvedgeref03_Pow.l0]
    by_cases h0 : m = 0
    · subst h0
      rw [if_neg (by decide)]
      have : Gm.pow (a, b) 0 = (1, 0) := rfl
      rw [this, Gm.mul_one h2]
    · rw [if_pos (by omega)]
      have e1 : Int.tdiv (m : Int) 2 = ((m / 2 : Nat) : Int) := by rw [Int.tdiv_eq_ediv_of_nonneg (by omega)]; omega
      have e2 : IntKind.u64.wrap ((m / 2 : Nat) : Int) = ((m / 2 : Nat) : Int) := by unfold IntKind.wrap; simp only [IntKind.signed, IntKind.bits, Bool.false_and, Bool.false_eq_true, if_false]; omega
      have e3 : Int.tmod (m : Int) 2 = ((m % 2 : Nat) : Int) := by rw [Int.tmod_eq_emod_of_nonneg (by omega)]; omega
      obtain ⟨k', rfl⟩ : ∃ k', k = k' + 1 := ⟨k - 1, by
        have : k ≠ 0 := by rintro rfl; simp at hk; omega
        omega⟩
      have hk' : m / 2 < 2 ^ k' := by rw [Nat.pow_succ] at hk; omega
      have sq : Gm.pow (Gm.mul (a, b) (a, b)) (m / 2) = Gm.pow (a, b) (2 * (m / 2)) := by
        rw [Gm.pow_mul]
        have : Gm.pow (a, b) 2 = Gm.mul (a, b) (a, b) := by
          rw [show (2 : Nat) = 1 + 1 from rfl, Gm.pow_add, pow_one h]
        rw [this]
      rw [e1, e2, e3]
      by_cases hodd : m % 2 = 1
      · rw [if_pos (by omega), rmulF c d a b h2 h, Option.bind_some, rmulF a b a b h h, Option.bind_some]
        refine (ih (m / 2) (by omega) k' (Gm.mul (a, b) (a, b)).1 (Gm.mul (a, b) (a, b)).2 (Gm.mul (c, d) (a, b)).1 (Gm.mul (c, d) (a, b)).2 hk' (by omega) (Gm.mul_ok _ _) (Gm.mul_ok _ _)).trans ?_
        have : Gm.pow (a, b) m = Gm.mul (a, b) (Gm.pow (a, b) (2 * (m / 2))) := by
          have e : m = 1 + 2 * (m / 2) := by omega
          rw [congrArg (Gm.pow (a, b)) e, Gm.pow_add, pow_one h]
        rw [this, ← sq, ← Gm.mul_assoc]
      · rw [if_neg (by omega), rmulF a b a b h h, Option.bind_some]
        refine (ih (m / 2) (by omega) k' (Gm.mul (a, b) (a, b)).1 (Gm.mul (a, b) (a, b)).2 c d hk' (by omega) (Gm.mul_ok _ _) h2).trans ?_
        have e : m = 2 * (m / 2) := by omega
        rw [congrArg (Gm.pow (a, b)) e, ← sq]
theorem rpow (a b : Int) (m : Nat) (hm : m < 18446744073709551616) (h : Gm.Ok (a, b)) : selvedgeref03_Pow.f 65 a b m = some (Gm.pow (a, b) m) := by
  unfold selvedgeref03_Pow.f
  rw [rmay, Option.bind_some, if_pos (by simpa using h), loop m 64 a b 1 0 (by omega) hm h (by decide), Gm.one_mul (Gm.pow_ok _ _)]
theorem rpowN (a b m : Int) (k : Nat) (h : ¬ Gm.Ok (a, b)) : selvedgeref03_Pow.f k a b m = some (0, 0) := by
  unfold selvedgeref03_Pow.f
  rw [rmay, Option.bind_some, if_neg (by simpa using h)]
theorem GaussPows : selvedgelaw03_GaussPows.Pure := by
  intro x n _ hn
  refine ⟨65, ?_⟩
  unfold selvedgelaw03_GaussPows.f
  have n0 := wf_u64 hn
  have n1 := wf_u64' hn
  obtain ⟨m, rfl⟩ := Int.eq_ofNat_of_zero_le n0
  rw [shown, Option.bind_some, if_pos rfl, of_ _ n0 n1, rof _ n0 n1]
  by_cases h : Gm.Ok (x.f0, x.f1)
  · rw [powF _ _ _ h n0 n1, rpow _ _ m (by omega) h, Int.toNat_natCast]
    simp
  · rw [powN _ _ _ h n0 n1, rpowN _ _ _ _ h]
    simp

end Go.Proofs.Ytokkkeepifpbpaa.Pure
