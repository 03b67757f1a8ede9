/- Proved: the pure half of the law GaussInvs of chapter 3 (what the walked program computes is 'true'). Conditions: those of its row, no other. -/
import Derived.Test.YtokkkeepifpbpaaArgGaussInvs
import Derived.Test.YtokkkeepifpbpaaGm
import Derived.IntWalk
namespace Go.Proofs.Ytokkkeepifpbpaa.Pure
open Go.IntWalk Go.RowKit Go.Proofs.Ytokkkeepifpbpaa.PGaussInvs Go.Proofs.YtokkkeepifpbpaaW.PrintWords Go.Proofs.YtokkkeepifpbpaaW.PrintLast

theorem may (a b : Int) : gauss_May.f a b = some (decide (Gm.Ok (a, b))) := by
  have e : Gm.Ok (a, b) ↔ 0 ≤ a ∧ a < 10007 ∧ 0 ≤ b ∧ b < 10007 := Iff.rfl
  unfold gauss_May.f
  by_cases h1 : a ≥ 0
  · by_cases h2 : a < 10007
    · by_cases h3 : b ≥ 0
      · rw [if_pos h1, if_pos h2, if_pos h3, Option.some.injEq, decide_eq_decide, e]
        omega
      · rw [if_pos h1, if_pos h2, if_neg h3, decide_eq_false (fun h => by rw [e] at h; omega)]
    · rw [if_pos h1, if_neg h2, decide_eq_false (fun h => by rw [e] at h; omega)]
  · rw [if_neg h1, decide_eq_false (fun h => by rw [e] at h; omega)]
theorem of_ (n : Int) (h : 0 ≤ n) (h2 : n < 18446744073709551616) : gauss_Of.f n = some (n % 10007, n / 10007 % 10007) := by
  have e1 : Int.tdiv n 10007 = n / 10007 := Int.tdiv_eq_ediv_of_nonneg h
  have e2 : IntKind.u64.wrap (n / 10007) = n / 10007 := by unfold IntKind.wrap; simp only [IntKind.signed, IntKind.bits, Bool.false_and, Bool.false_eq_true, if_false]; omega
  have e3 : Int.tmod n 10007 = n % 10007 := Int.tmod_eq_emod_of_nonneg h
  have e4 : Int.tmod (n / 10007) 10007 = n / 10007 % 10007 := Int.tmod_eq_emod_of_nonneg (by omega)
  unfold gauss_Of.f
  rw [e1, e2, e3, e4, wrap64_in _ (by omega), wrap64_in _ (by omega)]
theorem mulF (a b c d : Int) (h : Gm.Ok (a, b)) (h2 : Gm.Ok (c, d)) : gauss_Mul.f a b c d = some (Gm.mul (a, b) (c, d)) := by
  unfold gauss_Mul.f Fl.opE
  rw [if_pos ⟨h, h2⟩]
theorem mulE {x y : Gm.E} (h : Gm.Ok x) (h2 : Gm.Ok y) : gauss_Mul.f x.1 x.2 y.1 y.2 = some (Gm.mul x y) := mulF x.1 x.2 y.1 y.2 h h2
theorem mulN (a b c d : Int) (h : ¬ (Gm.Ok (a, b) ∧ Gm.Ok (c, d))) : gauss_Mul.f a b c d = some (0, 0) := by
  unfold gauss_Mul.f Fl.opE
  rw [if_neg h]
theorem powF (a b n : Int) (h : Gm.Ok (a, b)) (h0 : 0 ≤ n) (h2 : n < 18446744073709551616) : gauss_Pow.f a b n = some (Gm.pow (a, b) n.toNat) := by
  unfold gauss_Pow.f Fl.powE
  rw [if_pos ⟨h0, h2⟩, if_pos h]
theorem powN (a b n : Int) (h : ¬ Gm.Ok (a, b)) (h0 : 0 ≤ n) (h2 : n < 18446744073709551616) : gauss_Pow.f a b n = some (0, 0) := by
  unfold gauss_Pow.f Fl.powE
  rw [if_pos ⟨h0, h2⟩, if_neg h]
theorem powNN (a b : Int) (h : Gm.Ok (a, b)) : gauss_Pow.f a b 100140047 = some (Gm.pow (a, b) Gm.NN) := powF a b 100140047 h (by decide) (by decide)
theorem powNN1 (a b : Int) (h : Gm.Ok (a, b)) : gauss_Pow.f a b 100140048 = some (Gm.pow (a, b) (Gm.NN + 1)) := powF a b 100140048 h (by decide) (by decide)
theorem powPP (a b : Int) (h : Gm.Ok (a, b)) : gauss_Pow.f a b 10007 = some (Gm.pow (a, b) Gm.PP) := powF a b 10007 h (by decide) (by decide)
theorem zz (a b : Int) : (a == 0 && b == 0) = decide ((a, b) = ((0, 0) : Gm.E)) := by
  rw [Bool.eq_iff_iff]; simp
theorem invF (a b : Int) (h : Gm.Ok (a, b)) (h0 : (a, b) ≠ ((0, 0) : Gm.E)) : gauss_Inv.f a b = some ((Gm.pow (a, b) Gm.NN).1, (Gm.pow (a, b) Gm.NN).2, 0) := by
  unfold gauss_Inv.f
  rw [may, Option.bind_some, if_pos (by simpa using h), zz, if_neg (by simpa using h0), powNN a b h, Option.bind_some]
theorem invE {x : Gm.E} (h : Gm.Ok x) (h0 : x ≠ (0, 0)) : gauss_Inv.f x.1 x.2 = some ((Gm.pow x Gm.NN).1, (Gm.pow x Gm.NN).2, 0) := invF x.1 x.2 h h0
theorem inv0 : gauss_Inv.f 0 0 = some (0, 0, 1) := by
  unfold gauss_Inv.f
  rw [may, Option.bind_some, if_pos (by decide), zz, if_pos (by decide)]
theorem invN (a b : Int) (h : ¬ Gm.Ok (a, b)) : gauss_Inv.f a b = some (0, 0, 1) := by
  unfold gauss_Inv.f
  rw [may, Option.bind_some, if_neg (by simpa using h)]
theorem eqE (x : Gm.E) (a b : Int) : (x.1 == a && x.2 == b) = decide (x = (a, b)) := by
  rw [Bool.eq_iff_iff]
  obtain ⟨u, v⟩ := x
  simp
theorem eqE' (a b c d : Int) : (a == c && b == d) = decide (((a, b) : Gm.E) = (c, d)) := by
  rw [Bool.eq_iff_iff]; simp
theorem two_inv : Gm.pow (2, 0) Gm.NN = (5004, 0) :=
  Gm.inv_unique (Gm.pow_ok _ _) (by decide) (Gm.mul_inv (by decide) (by decide)) (by decide)
theorem shown : selvedgelaw03_shown.f = some true := by
  unfold selvedgelaw03_shown.f
  rw [mulF 0 1 0 1 (by decide) (by decide), Option.bind_some, invF 2 0 (by decide) (by decide), two_inv, Option.bind_some, of_ 10008 (by decide) (by decide), Option.bind_some]
  decide
theorem rmay (a b : Int) : selvedgeref03_May.f a b = some (decide (Gm.Ok (a, b))) := by
  have e : Gm.Ok (a, b) ↔ 0 ≤ a ∧ a < 10007 ∧ 0 ≤ b ∧ b < 10007 := Iff.rfl
  unfold selvedgeref03_May.f
  by_cases h1 : a ≥ 0
  · by_cases h2 : a < 10007
    · by_cases h3 : b ≥ 0
      · rw [if_pos h1, if_pos h2, if_pos h3, Option.some.injEq, decide_eq_decide, e]
        omega
      · rw [if_pos h1, if_pos h2, if_neg h3, decide_eq_false (fun h => by rw [e] at h; omega)]
    · rw [if_pos h1, if_neg h2, decide_eq_false (fun h => by rw [e] at h; omega)]
  · rw [if_neg h1, decide_eq_false (fun h => by rw [e] at h; omega)]
theorem bp (a c : Int) (h0 : 0 ≤ a) (h1 : a < 10007) (h2 : 0 ≤ c) (h3 : c < 10007) : 0 ≤ a * c ∧ a * c ≤ 100120036 :=
  ⟨Int.mul_nonneg h0 h2, Int.le_trans (Int.mul_le_mul (show a ≤ 10006 by omega) (show c ≤ 10006 by omega) h2 (by omega)) (by decide)⟩
theorem rnormF (a b : Int) (h : Gm.Ok (a, b)) : selvedgeref03_Norm.f a b = some (Gm.norm (a, b)) := by
  have p1 := bp a a h.1 h.2.1 h.1 h.2.1
  have p2 := bp b b h.2.2.1 h.2.2.2 h.2.2.1 h.2.2.2
  unfold selvedgeref03_Norm.f Gm.norm
  rw [rmay]
  simp only [Option.bind_some, h, decide_true, if_true]
  rw [wrap64_in (a * a) (by omega), wrap64_in (b * b) (by omega), wrap64_in _ (by omega), Int.tmod_eq_emod_of_nonneg (by omega)]
theorem rnormN (a b : Int) (h : ¬ Gm.Ok (a, b)) : selvedgeref03_Norm.f a b = some 0 := by
  unfold selvedgeref03_Norm.f
  rw [rmay, Option.bind_some, if_neg (by simpa using h)]
theorem pm (x : Int) (n : Nat) : (x % 10007) ^ n % 10007 = x ^ n % 10007 := by
  induction n with
  | zero => simp
  | succ n ih => rw [Int.pow_succ, Int.pow_succ, Int.mul_emod, ih, Int.emod_emod_of_dvd _ (Int.dvd_refl _), ← Int.mul_emod]
def QQ : Nat := 10005
theorem wl (m : Nat) : ∀ (k : Nat) (x y : Int), m < 2 ^ k → m ≤ 10005 → 0 ≤ x → x < 10007 → 0 ≤ y → y < 10007 → selvedgeref03_whole.l0 (k + 1) x y m = some (y * x ^ m % 10007) := by
  induction m using Nat.strongRecOn with
  | _ m ih =>
    intro k x y hk hm hx hx2 hy hy2
    rw [selvedgeref03_whole.l0]
    by_cases h0 : m = 0
    · subst h0
      rw [if_neg (by decide), Int.pow_zero, Int.mul_one, Int.emod_eq_of_lt hy hy2]
    · rw [if_pos (by omega)]
      have p1 := bp x x hx hx2 hx hx2
      have p2 := bp y x hy hy2 hx hx2
      have e1 : Int.tdiv (m : Int) 2 = ((m / 2 : Nat) : Int) := by rw [Int.tdiv_eq_ediv_of_nonneg (by omega)]; omega
      have e2 : wrap64 ((m / 2 : Nat) : Int) = ((m / 2 : Nat) : Int) := wrap64_in _ (by omega)
      have e3 : Int.tmod (m : Int) 2 = ((m % 2 : Nat) : Int) := by rw [Int.tmod_eq_emod_of_nonneg (by omega)]; omega
      obtain ⟨k', rfl⟩ : ∃ k', k = k' + 1 := ⟨k - 1, by
        have : k ≠ 0 := by rintro rfl; simp at hk; omega
        omega⟩
      have hk' : m / 2 < 2 ^ k' := by rw [Nat.pow_succ] at hk; omega
      have sq : (x * x % 10007) ^ (m / 2) % 10007 = x ^ (2 * (m / 2)) % 10007 := by
        rw [Int.pow_mul, Int.pow_succ, Int.pow_succ, Int.pow_zero, Int.one_mul, pm]
      rw [e1, e2, e3, wrap64_in (x * x) (by omega), wrap64_in (y * x) (by omega), Int.tmod_eq_emod_of_nonneg p1.1, Int.tmod_eq_emod_of_nonneg p2.1]
      by_cases hodd : m % 2 = 1
      · rw [if_pos (by omega)]
        refine (ih (m / 2) (by omega) k' _ _ hk' (by omega) (by omega) (by omega) (by omega) (by omega)).trans ?_
        have e : x ^ m = x * x ^ (2 * (m / 2)) := by
          have e : m = 2 * (m / 2) + 1 := by omega
          have e2 : x ^ m = x ^ (2 * (m / 2) + 1) := congrArg (fun n => x ^ n) e
          rw [e2, Int.pow_succ, Int.mul_comm]
        rw [e, ← Int.mul_assoc, Int.mul_emod, sq, ← Int.mul_emod, Int.mul_emod, Int.emod_emod_of_dvd _ (Int.dvd_refl _), ← Int.mul_emod]
      · rw [if_neg (by omega)]
        refine (ih (m / 2) (by omega) k' _ _ hk' (by omega) (by omega) (by omega) hy hy2).trans ?_
        have e : m = 2 * (m / 2) := by omega
        have e' : x ^ m = x ^ (2 * (m / 2)) := congrArg (fun n => x ^ n) e
        rw [e', Int.mul_emod, sq, ← Int.mul_emod]
theorem whole (k : Nat) (n : Int) (h0 : 0 ≤ n) (h1 : n < 10007) : selvedgeref03_whole.f (k + 15) n = some (n ^ QQ % 10007) := by
  unfold selvedgeref03_whole.f
  refine (wl QQ (k + 14) n 1 (Nat.lt_of_lt_of_le (by decide : QQ < 2 ^ 14) (Nat.pow_le_pow_right (by decide) (by omega))) (Nat.le_refl _) h0 h1 (by decide) (by decide)).trans ?_
  rw [Int.one_mul]
theorem norm_inv {x : Gm.E} (h : Gm.Ok x) (h0 : x ≠ (0, 0)) : Gm.norm x * (Gm.norm x ^ QQ % 10007) % 10007 = 1 := by
  have hn : Gm.norm x % 10007 ≠ 0 := by
    intro e
    refine h0 (Gm.norm_zero h ?_)
    unfold Gm.norm at e ⊢
    omega
  have := Gm.fermat_one hn
  have e : Gm.norm x ^ 10006 = Gm.norm x * Gm.norm x ^ QQ := by
    rw [show (10006 : Nat) = QQ + 1 from rfl, Int.pow_succ, Int.mul_comm]
  rw [e] at this
  rw [Int.mul_emod, Int.emod_emod_of_dvd _ (Int.dvd_refl _), ← Int.mul_emod]
  omega
theorem j0T (k : Nat) (a b : Int) : selvedgeref03_Inv.j0 (k + 1) true a b = some (0, 0, 1) := by rw [selvedgeref03_Inv.j0, if_pos rfl]
theorem rinv (a b : Int) (h : Gm.Ok (a, b)) (h0 : (a, b) ≠ ((0, 0) : Gm.E)) : selvedgeref03_Inv.j0 16 false a b = some ((Gm.pow (a, b) Gm.NN).1, (Gm.pow (a, b) Gm.NN).2, 0) := by
  have h' := h
  unfold Gm.Ok at h'
  simp only at h'
  have bn : 0 ≤ Gm.norm (a, b) ∧ Gm.norm (a, b) < 10007 := by unfold Gm.norm; omega
  rw [selvedgeref03_Inv.j0, if_neg (by decide), rnormF a b h, Option.bind_some, whole 0 _ bn.1 bn.2, Option.bind_some]
  have ni := norm_inv h h0
  generalize hq : Gm.norm (a, b) ^ QQ % 10007 = q at *
  have bq : 0 ≤ q ∧ q < 10007 := by omega
  have p1 := bp a q h'.1 h'.2.1 bq.1 bq.2
  have e0 : Int.tmod (wrap64 (10007 - b)) 10007 = -b % 10007 := by
    rw [wrap64_in _ (by omega), Int.tmod_eq_emod_of_nonneg (by omega)]; omega
  rw [e0]
  have p2 := bp (-b % 10007) q (by omega) (by omega) bq.1 bq.2
  rw [wrap64_in (a * q) (by omega), wrap64_in _ (by omega), Int.tmod_eq_emod_of_nonneg p1.1, Int.tmod_eq_emod_of_nonneg p2.1]
  have e : ((a * q % 10007, -b % 10007 * q % 10007) : Gm.E) = Gm.mul (Gm.conj (a, b)) (q, 0) := by
    unfold Gm.mul Gm.gmul Gm.conj Gm.red
    simp only [Int.mul_zero, Int.sub_zero, Int.zero_add]
    rw [Int.emod_eq_of_lt h'.1 h'.2.1]
  have e2 : Gm.mul (a, b) (Gm.mul (Gm.conj (a, b)) (q, 0)) = (1, 0) := by
    rw [← Gm.mul_assoc, Gm.mul_conj]
    unfold Gm.mul Gm.gmul Gm.red
    simp only [Int.mul_zero, Int.zero_mul, Int.sub_zero, Int.add_zero]
    rw [ni]
    rfl
  have e3 := Gm.inv_unique (Gm.pow_ok (a, b) Gm.NN) (Gm.mul_ok _ _) (Gm.mul_inv h h0) e2
  rw [e3, ← e]
theorem gN (a b : Int) (h : ¬ Gm.Ok (a, b)) : selvedgelaw03_GaussInvs.f 16 a b = some true := by
  unfold selvedgelaw03_GaussInvs.f selvedgeref03_Inv.f
  rw [shown, Option.bind_some, rmay, Option.bind_some, if_neg (by simpa using h), invN _ _ h, j0T 15, Option.bind_some, Option.bind_some, if_pos rfl, if_pos (by decide)]
  rfl
theorem g0 : selvedgelaw03_GaussInvs.f 16 0 0 = some true := by
  unfold selvedgelaw03_GaussInvs.f selvedgeref03_Inv.f
  rw [shown, Option.bind_some, rmay, Option.bind_some, if_pos (by decide), inv0, if_pos rfl, beq_self_eq_true, j0T 15, Option.bind_some, Option.bind_some, if_pos rfl, if_pos (by decide)]
  rfl
theorem gI (a b : Int) (h : Gm.Ok (a, b)) (h0 : (a, b) ≠ ((0, 0) : Gm.E)) : selvedgeref03_Inv.f 16 a b = some ((Gm.pow (a, b) Gm.NN).1, (Gm.pow (a, b) Gm.NN).2, 0) := by
  unfold selvedgeref03_Inv.f
  rw [rmay, Option.bind_some, if_pos (by simpa using h)]
  by_cases h1 : a = 0
  · have : (b == 0) = false := by
      rw [beq_eq_false_iff_ne]
      intro h2
      exact h0 (by rw [h1, h2])
    rw [if_pos h1, this]
    exact rinv a b h h0
  · rw [if_neg h1]
    exact rinv a b h h0
theorem gF (a b : Int) (h : Gm.Ok (a, b)) (h0 : (a, b) ≠ ((0, 0) : Gm.E)) : selvedgelaw03_GaussInvs.f 16 a b = some true := by
  unfold selvedgelaw03_GaussInvs.f
  rw [shown, Option.bind_some, gI a b h h0, invF a b h h0, Option.bind_some, Option.bind_some, if_pos rfl]
  generalize Gm.pow (a, b) Gm.NN = q
  simp
theorem GaussInvs : selvedgelaw03_GaussInvs.Pure := by
  intro x _
  refine ⟨16, ?_⟩
  by_cases h : Gm.Ok (x.f0, x.f1)
  · by_cases h0 : (x.f0, x.f1) = ((0, 0) : Gm.E)
    · obtain ⟨e1, e2⟩ := Prod.mk.inj h0
      rw [e1, e2]
      exact g0
    · exact gF _ _ h h0
  · exact gN _ _ h

end Go.Proofs.Ytokkkeepifpbpaa.Pure
