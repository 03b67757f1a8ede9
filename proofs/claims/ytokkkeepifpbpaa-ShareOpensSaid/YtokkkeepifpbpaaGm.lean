import Derived.IntWalk
namespace Go.Proofs.Ytokkkeepifpbpaa.Gm

abbrev E := Int × Int
def red (x : E) : E := (x.1 % 10007, x.2 % 10007)
def Ok (x : E) : Prop := 0 ≤ x.1 ∧ x.1 < 10007 ∧ 0 ≤ x.2 ∧ x.2 < 10007
instance (x : E) : Decidable (Ok x) := by unfold Ok; infer_instance
def gadd (x y : E) : E := (x.1 + y.1, x.2 + y.2)
def gsub (x y : E) : E := (x.1 - y.1, x.2 - y.2)
def gmul (x y : E) : E := (x.1 * y.1 - x.2 * y.2, x.1 * y.2 + x.2 * y.1)
def add (x y : E) : E := red (gadd x y)
def sub (x y : E) : E := red (gsub x y)
def mul (x y : E) : E := red (gmul x y)
def gpow (x : E) : Nat → E
  | 0 => (1, 0)
  | n + 1 => gmul (gpow x n) x
def pow (x : E) (n : Nat) : E := red (gpow x n)
def conj (x : E) : E := red (x.1, -x.2)
def norm (x : E) : Int := (x.1 * x.1 + x.2 * x.2) % 10007

theorem red_ok (x : E) : Ok (red x) := by unfold Ok red; simp only; omega
theorem red_of_ok {x : E} (h : Ok x) : red x = x := by
  obtain ⟨a, b⟩ := x; unfold Ok at h; unfold red; simp only at *
  rw [Int.emod_eq_of_lt h.1 h.2.1, Int.emod_eq_of_lt h.2.2.1 h.2.2.2]
theorem red_red (x : E) : red (red x) = red x := red_of_ok (red_ok x)
/-- Congruence. -/
def Cg (x y : E) : Prop := red x = red y
theorem cg_red (x : E) : Cg (red x) x := red_red x
theorem Cg.rfl' (x : E) : Cg x x := rfl
theorem Cg.symm {x y : E} (h : Cg x y) : Cg y x := Eq.symm h
theorem Cg.trans {x y z : E} (h : Cg x y) (g : Cg y z) : Cg x z := Eq.trans h g
theorem cg_iff {x y : E} : Cg x y ↔ x.1 % 10007 = y.1 % 10007 ∧ x.2 % 10007 = y.2 % 10007 := by
  unfold Cg red; simp
theorem cg_dvd {x y : E} : Cg x y ↔ (∃ k, x.1 = y.1 + 10007 * k) ∧ (∃ k, x.2 = y.2 + 10007 * k) := by
  rw [cg_iff]
  constructor
  · rintro ⟨h1, h2⟩
    exact ⟨⟨x.1 / 10007 - y.1 / 10007, by omega⟩, ⟨x.2 / 10007 - y.2 / 10007, by omega⟩⟩
  · rintro ⟨⟨k, h1⟩, ⟨l, h2⟩⟩
    constructor <;> omega
theorem cg_add {x y u v : E} (h : Cg x u) (g : Cg y v) : Cg (gadd x y) (gadd u v) := by
  rw [cg_dvd] at *; obtain ⟨⟨a, ha⟩, ⟨b, hb⟩⟩ := h; obtain ⟨⟨c, hc⟩, ⟨d, hd⟩⟩ := g
  exact ⟨⟨a + c, by simp only [gadd]; rw [ha, hc]; grind⟩, ⟨b + d, by simp only [gadd]; rw [hb, hd]; grind⟩⟩
theorem cg_sub {x y u v : E} (h : Cg x u) (g : Cg y v) : Cg (gsub x y) (gsub u v) := by
  rw [cg_dvd] at *; obtain ⟨⟨a, ha⟩, ⟨b, hb⟩⟩ := h; obtain ⟨⟨c, hc⟩, ⟨d, hd⟩⟩ := g
  exact ⟨⟨a - c, by simp only [gsub]; rw [ha, hc]; grind⟩, ⟨b - d, by simp only [gsub]; rw [hb, hd]; grind⟩⟩
theorem cg_mul {x y u v : E} (h : Cg x u) (g : Cg y v) : Cg (gmul x y) (gmul u v) := by
  rw [cg_dvd] at *; obtain ⟨⟨a, ha⟩, ⟨b, hb⟩⟩ := h; obtain ⟨⟨c, hc⟩, ⟨d, hd⟩⟩ := g
  refine ⟨⟨a * v.1 + u.1 * c + 10007 * a * c - (b * v.2 + u.2 * d + 10007 * b * d), ?_⟩, ⟨a * v.2 + u.1 * d + 10007 * a * d + (b * v.1 + u.2 * c + 10007 * b * c), ?_⟩⟩
  · simp only [gmul]; rw [ha, hb, hc, hd]; grind
  · simp only [gmul]; rw [ha, hb, hc, hd]; grind
theorem cg_pow {x y : E} (h : Cg x y) (n : Nat) : Cg (gpow x n) (gpow y n) := by
  induction n with
  | zero => rfl
  | succ n ih => exact cg_mul ih h

theorem gmul_comm (x y : E) : gmul x y = gmul y x := by unfold gmul; ext <;> simp only <;> grind
theorem gmul_assoc (x y z : E) : gmul (gmul x y) z = gmul x (gmul y z) := by unfold gmul; ext <;> simp only <;> grind
theorem gmul_add (x y z : E) : gmul x (gadd y z) = gadd (gmul x y) (gmul x z) := by unfold gmul gadd; ext <;> simp only <;> grind
theorem gmul_sub (x y z : E) : gmul x (gsub y z) = gsub (gmul x y) (gmul x z) := by unfold gmul gsub; ext <;> simp only <;> grind
theorem gmul_one (x : E) : gmul x (1, 0) = x := by unfold gmul; ext <;> simp
theorem gone_mul (x : E) : gmul (1, 0) x = x := by unfold gmul; ext <;> simp
theorem gmul_zero (x : E) : gmul x (0, 0) = (0, 0) := by unfold gmul; simp
theorem gadd_comm (x y : E) : gadd x y = gadd y x := by unfold gadd; ext <;> simp only <;> omega
theorem gadd_assoc (x y z : E) : gadd (gadd x y) z = gadd x (gadd y z) := by unfold gadd; ext <;> simp only <;> omega
theorem gpow_add (x : E) (m n : Nat) : gpow x (m + n) = gmul (gpow x m) (gpow x n) := by
  induction n with
  | zero => rw [gpow, gmul_one]; rfl
  | succ n ih => rw [← Nat.add_assoc, gpow, gpow, ih, gmul_assoc]
theorem gpow_one (x : E) : gpow x 1 = x := by rw [gpow, gpow, gone_mul]
theorem gpow_mul (x : E) (m n : Nat) : gpow x (m * n) = gpow (gpow x m) n := by
  induction n with
  | zero => rfl
  | succ n ih => rw [Nat.mul_succ, gpow_add, ih, gpow]
theorem gmul_pow (x y : E) (n : Nat) : gpow (gmul x y) n = gmul (gpow x n) (gpow y n) := by
  induction n with
  | zero => rw [gpow, gpow, gpow, gmul_one]
  | succ n ih =>
    rw [gpow, gpow, gpow, ih, gmul_assoc, gmul_assoc]; congr 1
    rw [← gmul_assoc, ← gmul_assoc]; congr 1; exact gmul_comm _ _

/-! the field's own operations -/
theorem add_ok (x y : E) : Ok (add x y) := red_ok _
theorem sub_ok (x y : E) : Ok (sub x y) := red_ok _
theorem mul_ok (x y : E) : Ok (mul x y) := red_ok _
theorem pow_ok (x : E) (n : Nat) : Ok (pow x n) := red_ok _
theorem add_comm (x y : E) : add x y = add y x := by unfold add; rw [gadd_comm]
theorem mul_comm (x y : E) : mul x y = mul y x := by unfold mul; rw [gmul_comm]
theorem mul_assoc (x y z : E) : mul (mul x y) z = mul x (mul y z) :=
  (cg_mul (cg_red _) (Cg.rfl' z)).trans ((congrArg red (gmul_assoc x y z)).trans (cg_mul (Cg.rfl' x) (cg_red _)).symm)
theorem add_assoc (x y z : E) : add (add x y) z = add x (add y z) :=
  (cg_add (cg_red _) (Cg.rfl' z)).trans ((congrArg red (gadd_assoc x y z)).trans (cg_add (Cg.rfl' x) (cg_red _)).symm)
theorem mul_add (x y z : E) : mul x (add y z) = add (mul x y) (mul x z) :=
  (cg_mul (Cg.rfl' x) (cg_red _)).trans ((congrArg red (gmul_add x y z)).trans (cg_add (cg_red _) (cg_red _)).symm)
theorem mul_sub (x y z : E) : mul x (sub y z) = sub (mul x y) (mul x z) :=
  (cg_mul (Cg.rfl' x) (cg_red _)).trans ((congrArg red (gmul_sub x y z)).trans (cg_sub (cg_red _) (cg_red _)).symm)
theorem add_sub_cancel {x : E} (y : E) (h : Ok x) : sub (add x y) y = x := by
  have e : gsub (gadd x y) y = x := by unfold gsub gadd; ext <;> simp only <;> omega
  have h2 : red (gsub (red (gadd x y)) y) = red (gsub (gadd x y) y) := cg_sub (cg_red _) (Cg.rfl' y)
  rw [e, red_of_ok h] at h2; exact h2
theorem sub_add_cancel {x : E} (y : E) (h : Ok x) : add (sub x y) y = x := by
  have e : gadd (gsub x y) y = x := by unfold gsub gadd; ext <;> simp only <;> omega
  have h2 : red (gadd (red (gsub x y)) y) = red (gadd (gsub x y) y) := cg_add (cg_red _) (Cg.rfl' y)
  rw [e, red_of_ok h] at h2; exact h2
theorem mul_one {x : E} (h : Ok x) : mul x (1, 0) = x := by unfold mul; rw [gmul_one]; exact red_of_ok h
theorem add_zero {x : E} (h : Ok x) : add x (0, 0) = x := by
  unfold add gadd; simp only [Int.add_zero]; exact red_of_ok h
theorem sub_self (x : E) : sub x x = (0, 0) := by unfold sub gsub red; simp
theorem mul_zero (x : E) : mul x (0, 0) = (0, 0) := by unfold mul; rw [gmul_zero]; rfl
theorem pow_add (x : E) (m n : Nat) : pow x (m + n) = mul (pow x m) (pow x n) := by
  unfold pow; rw [gpow_add]; exact (cg_mul (cg_red _) (cg_red _)).symm
theorem pow_red (x : E) (n : Nat) : pow (red x) n = pow x n := cg_pow (cg_red x) n
theorem pow_mul (x : E) (m n : Nat) : pow x (m * n) = pow (pow x m) n := by
  show red (gpow x (m * n)) = red (gpow (red (gpow x m)) n)
  rw [gpow_mul]; exact (cg_pow (cg_red _) n).symm
theorem mul_pow (x y : E) (n : Nat) : pow (mul x y) n = mul (pow x n) (pow y n) := by
  show red (gpow (red (gmul x y)) n) = _
  rw [show red (gpow (red (gmul x y)) n) = red (gpow (gmul x y) n) from cg_pow (cg_red _) n, gmul_pow]
  exact (cg_mul (cg_red _) (cg_red _)).symm

/-! binomials -/
def ch : Nat → Nat → Nat
  | _, 0 => 1
  | 0, _ + 1 => 0
  | n + 1, k + 1 => ch n k + ch n (k + 1)
theorem ch_over (n k : Nat) (h : n < k) : ch n k = 0 := by
  induction n generalizing k with
  | zero => cases k with
    | zero => omega
    | succ k => rfl
  | succ n ih => cases k with
    | zero => omega
    | succ k => rw [ch, ih k (by omega), ih (k + 1) (by omega)]
theorem ch_self (n : Nat) : ch n n = 1 := by
  induction n with
  | zero => rfl
  | succ n ih => rw [ch, ih, ch_over n (n + 1) (by omega)]
theorem ch_absorb (n k : Nat) : (k + 1) * ch (n + 1) (k + 1) = (n + 1) * ch n k := by
  induction n generalizing k with
  | zero => cases k with
    | zero => rfl
    | succ k => rw [ch, ch, ch, ch_over 0 (k + 1 + 1) (by omega)]; simp
  | succ n ih =>
    cases k with
    | zero =>
      have h := ih 0
      have e : ch (n + 1) 0 = 1 := by cases n <;> rfl
      have e' : ch n 0 = 1 := by cases n <;> rfl
      have e2 : ch (n + 1 + 1) (0 + 1) = ch (n + 1) 0 + ch (n + 1) (0 + 1) := ch.eq_3 (n + 1) 0
      rw [e'] at h; rw [e2, e]; omega
    | succ k =>
      have h1 := ih k
      have h2 := ih (k + 1)
      rw [ch.eq_3 (n + 1) (k + 1)]
      have e : ch (n + 1) (k + 1) = ch n k + ch n (k + 1) := ch.eq_3 n k
      generalize ch (n + 1) (k + 1 + 1) = c at *
      rw [Nat.mul_add, h2]
      rw [show (k + 1 + 1) * ch (n + 1) (k + 1) = (k + 1) * ch (n + 1) (k + 1) + ch (n + 1) (k + 1) by rw [Nat.add_mul, Nat.one_mul], h1, e]
      grind

theorem prime_of {g : Nat} (h : g ∣ 10007) : g = 1 ∨ g = 10007 := by
  obtain ⟨q, hq⟩ := h
  have small : ∀ d, d < 101 → 2 ≤ d → 10007 % d ≠ 0 := by decide +kernel
  by_cases h1 : g = 1
  · exact .inl h1
  by_cases h2 : q = 1
  · subst h2; exact .inr (by omega)
  have hg0 : g ≠ 0 := by rintro rfl; omega
  have hq0 : q ≠ 0 := by rintro rfl; omega
  by_cases hg : g < 101
  · exact absurd (by rw [hq]; exact Nat.mul_mod_right g q) (small g hg (by omega))
  · by_cases hq' : q < 101
    · exact absurd (by rw [hq]; exact Nat.mul_mod_left g q) (small q hq' (by omega))
    · have := Nat.mul_le_mul (show 101 ≤ g by omega) (show 101 ≤ q by omega)
      omega
theorem coprime_of {k : Nat} (h0 : 0 < k) (h : k < 10007) : Nat.Coprime 10007 k := by
  unfold Nat.Coprime
  rcases prime_of (Nat.gcd_dvd_left 10007 k) with e | e
  · exact e
  · have := Nat.le_of_dvd h0 (Nat.gcd_dvd_right 10007 k)
    omega
def PP : Nat := 10007
theorem PP_eq : PP = 10006 + 1 := rfl
theorem PP_i : PP = 4 * 2501 + 3 := rfl
theorem ch_dvd (k : Nat) (h0 : 0 < k) (h : k < 10007) : 10007 ∣ ch PP k := by
  obtain ⟨j, rfl⟩ : ∃ j, k = j + 1 := ⟨k - 1, by omega⟩
  have h2 := ch_absorb 10006 j
  rw [← PP_eq] at h2
  refine (coprime_of h0 h).dvd_of_dvd_mul_left ⟨ch 10006 j, ?_⟩
  rw [h2]; rfl

def gsc (c : Nat) (x : E) : E := ((c : Int) * x.1, (c : Int) * x.2)
def part (x : E) (n : Nat) : Nat → E
  | 0 => (0, 0)
  | m + 1 => gadd (part x n m) (gsc (ch n m) (gpow x m))
theorem part_step (x : E) (n m : Nat) : gmul (gadd x (1, 0)) (part x n (m + 1)) = gadd (part x (n + 1) (m + 1)) (gsc (ch n m) (gpow x (m + 1))) := by
  induction m with
  | zero =>
    have e : ch n 0 = 1 := by cases n <;> rfl
    simp only [part, e, show ch (n + 1) 0 = 1 from rfl, gpow, gone_mul]
    unfold gmul gadd gsc; ext <;> simp <;> omega
  | succ m ih =>
    have e : ch (n + 1) (m + 1) = ch n m + ch n (m + 1) := ch.eq_3 n m
    rw [show part x n (m + 1 + 1) = gadd (part x n (m + 1)) (gsc (ch n (m + 1)) (gpow x (m + 1))) from rfl, gmul_add, ih]
    rw [show part x (n + 1) (m + 1 + 1) = gadd (part x (n + 1) (m + 1)) (gsc (ch (n + 1) (m + 1)) (gpow x (m + 1))) from rfl, e]
    rw [show gpow x (m + 1 + 1) = gmul (gpow x (m + 1)) x from rfl]
    generalize gpow x (m + 1) = y
    generalize part x (n + 1) (m + 1) = q
    generalize ch n m = a
    generalize ch n (m + 1) = b
    unfold gmul gadd gsc; ext <;> simp only [Int.natCast_add] <;> grind
theorem binomial (x : E) (n : Nat) : gpow (gadd x (1, 0)) n = part x n (n + 1) := by
  induction n with
  | zero => rfl
  | succ n ih =>
    rw [gpow, ih, gmul_comm, part_step, ch_self]
    rw [show part x (n + 1) (n + 1 + 1) = gadd (part x (n + 1) (n + 1)) (gsc (ch (n + 1) (n + 1)) (gpow x (n + 1))) from rfl, ch_self]
theorem part_cg (x : E) (m : Nat) (h : m < 10007) : Cg (part x PP (m + 1)) (1, 0) := by
  induction m with
  | zero => rfl
  | succ m ih =>
    have h1 := ih (by omega)
    obtain ⟨c, hc⟩ := ch_dvd (m + 1) (by omega) h
    have h2 : Cg (gsc (ch PP (m + 1)) (gpow x (m + 1))) (0, 0) := by
      rw [cg_dvd, hc]
      exact ⟨⟨(c : Int) * (gpow x (m + 1)).1, by simp only [gsc]; rw [Int.natCast_mul]; grind⟩, ⟨(c : Int) * (gpow x (m + 1)).2, by simp only [gsc]; rw [Int.natCast_mul]; grind⟩⟩
    exact (cg_add h1 h2).trans rfl
theorem frob_one (x : E) : Cg (gpow (gadd x (1, 0)) PP) (gadd (gpow x PP) (1, 0)) := by
  have h1 := part_cg x 10006 (by omega)
  rw [← PP_eq] at h1
  rw [binomial, show part x PP (PP + 1) = gadd (part x PP PP) (gsc (ch PP PP) (gpow x PP)) from rfl, ch_self]
  have e : gsc 1 (gpow x PP) = gpow x PP := by unfold gsc; simp
  rw [e, gadd_comm _ (1, 0)]
  exact cg_add h1 (Cg.rfl' _)
theorem frob_nat (x : E) (a : Nat) : Cg (gpow (gadd x (a, 0)) PP) (gadd (gpow x PP) (a, 0)) := by
  induction a with
  | zero => rw [show gadd x (((0 : Nat) : Int), 0) = x by unfold gadd; ext <;> simp]; rw [show gadd (gpow x PP) (((0 : Nat) : Int), 0) = gpow x PP by unfold gadd; ext <;> simp]; rfl
  | succ a ih =>
    have e : gadd x (((a + 1 : Nat) : Int), 0) = gadd (gadd x (a, 0)) (1, 0) := by unfold gadd; ext <;> simp only [Int.natCast_add] <;> omega
    have e' : gadd (gpow x PP) (((a + 1 : Nat) : Int), 0) = gadd (gadd (gpow x PP) (a, 0)) (1, 0) := by unfold gadd; ext <;> simp only [Int.natCast_add] <;> omega
    rw [e, e']
    exact (frob_one _).trans (cg_add ih (Cg.rfl' _))
theorem gpow_zero_base (n : Nat) : gpow (0, 0) (n + 1) = (0, 0) := by rw [gpow, gmul_zero]
theorem fermat (a : Nat) : Cg (gpow ((a : Int), 0) PP) ((a : Int), 0) := by
  have h := frob_nat (0, 0) a
  rw [show gpow (0, 0) PP = (0, 0) from gpow_zero_base 10006] at h
  have e : gadd (0, 0) ((a : Int), 0) = ((a : Int), 0) := by unfold gadd; ext <;> simp
  rw [e] at h; exact h
theorem gpow_i4 (n : Nat) : gpow (0, 1) (4 * n) = (1, 0) := by
  rw [gpow_mul]
  have e : gpow (0, 1) 4 = (1, 0) := by decide
  rw [e]
  induction n with
  | zero => rfl
  | succ n ih => rw [gpow, ih]; decide
theorem gpow_i3 (n k : Nat) (h : n = 4 * k + 3) : gpow (0, 1) n = (0, -1) := by
  rw [h, gpow_add, gpow_i4, gone_mul]; decide
theorem gpow_i : gpow (0, 1) PP = (0, -1) := gpow_i3 _ 2501 PP_i
/-- To the power of the prime, i turns round. -/
theorem frobenius {x : E} (h : Ok x) : pow x PP = conj x := by
  obtain ⟨a, b⟩ := x
  obtain ⟨h1, h2, h3, h4⟩ := h
  simp only at h1 h2 h3 h4
  obtain ⟨m, rfl⟩ := Int.eq_ofNat_of_zero_le h1
  obtain ⟨n, rfl⟩ := Int.eq_ofNat_of_zero_le h3
  have e : ((m : Int), (n : Int)) = gadd (gmul (n, 0) (0, 1)) (m, 0) := by unfold gadd gmul; simp
  have h5 : Cg (gpow (gmul (n, 0) (0, 1)) PP) (gmul (n, 0) (0, -1)) := by
    rw [gmul_pow, gpow_i]; exact cg_mul (fermat n) (Cg.rfl' _)
  have h6 : gadd (gmul ((n : Int), 0) (0, -1)) ((m : Int), 0) = ((m : Int), -(n : Int)) := by unfold gadd gmul; ext <;> simp
  have h7 := (frob_nat (gmul (n, 0) (0, 1)) m).trans (cg_add h5 (Cg.rfl' _))
  rw [← e, h6] at h7
  exact h7

theorem gpow_int (a : Int) (n : Nat) : gpow (a, 0) n = (a ^ n, 0) := by
  induction n with
  | zero => rw [Int.pow_zero]; rfl
  | succ n ih => rw [gpow, ih]; unfold gmul; simp [Int.pow_succ]
theorem ok_int {a : Int} (h0 : 0 ≤ a) (h : a < 10007) : Ok (a, 0) := by unfold Ok; simp only; omega
theorem dvd_cancel {a b : Int} (ha : a % 10007 ≠ 0) (h : (10007 : Int) ∣ a * b) : (10007 : Int) ∣ b := by
  have hc : Nat.Coprime 10007 a.natAbs := by
    unfold Nat.Coprime
    rcases prime_of (Nat.gcd_dvd_left 10007 a.natAbs) with e | e
    · exact e
    · have h2 := Nat.gcd_dvd_right 10007 a.natAbs
      rw [e] at h2
      exact absurd (Int.emod_eq_zero_of_dvd (Int.natAbs_dvd_natAbs.1 (show (10007 : Int).natAbs ∣ a.natAbs from h2))) ha
  have h3 : 10007 ∣ a.natAbs * b.natAbs := by rw [← Int.natAbs_mul]; exact Int.natAbs_dvd_natAbs.2 h
  exact Int.natAbs_dvd_natAbs.1 (show (10007 : Int).natAbs ∣ b.natAbs from hc.dvd_of_dvd_mul_left h3)
theorem fermat_one {a : Int} (ha : a % 10007 ≠ 0) : (10007 : Int) ∣ a ^ 10006 - 1 := by
  have h1 : Cg (gpow (((a % 10007).toNat : Int), 0) PP) (((a % 10007).toNat : Int), 0) := fermat _
  have e : (((a % 10007).toNat : Int)) = a % 10007 := Int.toNat_of_nonneg (Int.emod_nonneg _ (by decide))
  rw [e] at h1
  have h2 : Cg (a % 10007, 0) (a, 0) := by rw [cg_iff]; simp
  have h3 := ((cg_pow h2 PP).symm.trans h1).trans h2
  rw [gpow_int, cg_iff] at h3
  have h4 := h3.1
  simp only at h4
  rw [PP_eq, Int.pow_succ] at h4
  refine dvd_cancel ha ?_
  have h5 := Int.dvd_of_emod_eq_zero (Int.emod_eq_emod_iff_emod_sub_eq_zero.1 h4)
  have e6 : a * (a ^ 10006 - 1) = a ^ 10006 * a - a := by rw [Int.mul_sub, Int.mul_one, Int.mul_comm]
  rw [e6]; exact h5
theorem fermat_zero {a : Int} (ha : a % 10007 = 0) (n : Nat) : (10007 : Int) ∣ a ^ (n + 1) := by
  rw [Int.pow_succ]; exact Int.dvd_mul_of_dvd_right (Int.dvd_of_emod_eq_zero ha)
theorem neg_mod {A B : Int} (h : (A + B) % 10007 = 0) : A % 10007 = -B % 10007 := by omega
/-- Of two squares whose sum is 0 both are 0. -/
theorem squares {a b : Int} (h : (a * a + b * b) % 10007 = 0) : a % 10007 = 0 ∧ b % 10007 = 0 := by
  have key : ∀ a b : Int, (a * a + b * b) % 10007 = 0 → b % 10007 = 0 := by
    intro a b h
    by_cases hb : b % 10007 = 0
    · exact hb
    exfalso
    have h1 : Cg (a * a, 0) (-(b * b), 0) := by rw [cg_iff]; exact ⟨neg_mod h, rfl⟩
    have h2 := cg_pow h1 5003
    rw [gpow_int, gpow_int, cg_iff] at h2
    have h3 := h2.1
    simp only at h3
    have e1 : (a * a) ^ 5003 = a ^ 10006 := by
      rw [show a * a = a ^ 2 by rw [Int.pow_succ, Int.pow_succ]; simp, ← Int.pow_mul]
    have e2 : (-(b * b)) ^ 5003 = -(b ^ 10006) := by
      rw [Int.neg_pow, show b * b = b ^ 2 by rw [Int.pow_succ, Int.pow_succ]; simp, ← Int.pow_mul]
      have : (-1 : Int) ^ (5003 % 2) = -1 := by decide
      rw [this]; simp
    rw [e1, e2] at h3
    obtain ⟨c, hc⟩ := fermat_one hb
    by_cases ha : a % 10007 = 0
    · obtain ⟨d, hd⟩ := fermat_zero ha 10005
      rw [show 10005 + 1 = 10006 from rfl] at hd
      omega
    · obtain ⟨d, hd⟩ := fermat_one ha
      omega
  exact ⟨key b a (by rw [Int.add_comm]; exact h), key a b h⟩
theorem norm_zero {x : E} (h : Ok x) (h0 : norm x = 0) : x = (0, 0) := by
  obtain ⟨h1, h2⟩ := squares h0
  obtain ⟨a, b⟩ := x
  obtain ⟨g1, g2, g3, g4⟩ := h
  simp only at *
  rw [Int.emod_eq_of_lt g1 g2] at h1
  rw [Int.emod_eq_of_lt g3 g4] at h2
  rw [h1, h2]
theorem mul_conj (x : E) : mul x (conj x) = (norm x, 0) := by
  have h : Cg (gmul x (red (x.1, -x.2))) (gmul x (x.1, -x.2)) := cg_mul (Cg.rfl' x) (cg_red _)
  show red (gmul x (red (x.1, -x.2))) = _
  rw [show red (gmul x (red (x.1, -x.2))) = red (gmul x (x.1, -x.2)) from h]
  unfold red gmul norm
  ext
  · simp only; congr 1; grind
  · simp only
    rw [show x.1 * -x.2 + x.2 * x.1 = 0 by grind]; rfl
def NN : Nat := 100140047
theorem NN_eq : NN + 1 = (PP + 1) * 10006 := rfl
/-- The inverse. -/
theorem mul_inv {x : E} (h : Ok x) (h0 : x ≠ (0, 0)) : mul x (pow x NN) = (1, 0) := by
  have e1 : mul x (pow x NN) = pow x (NN + 1) := by
    rw [pow_add, mul_comm]
    congr 1
    unfold pow; rw [gpow_one, red_of_ok h]
  have e2 : pow x (PP + 1) = (norm x, 0) := by
    rw [pow_add, frobenius h, mul_comm]
    rw [show pow x 1 = x by unfold pow; rw [gpow_one, red_of_ok h]]
    exact mul_conj x
  rw [e1, NN_eq, pow_mul, e2]
  have hn : norm x % 10007 ≠ 0 := by
    intro hh
    have : norm x = 0 := by
      unfold norm at *; omega
    exact h0 (norm_zero h this)
  obtain ⟨c, hc⟩ := fermat_one hn
  unfold pow
  rw [gpow_int]
  unfold red
  simp only
  have : norm x ^ 10006 % 10007 = 1 := by omega
  rw [this]; rfl
theorem one_mul {x : E} (h : Ok x) : mul (1, 0) x = x := by rw [mul_comm]; exact mul_one h
theorem zero_mul (x : E) : mul (0, 0) x = (0, 0) := by rw [mul_comm]; exact mul_zero x
theorem inv_unique {x y z : E} (hy : Ok y) (hz : Ok z) (h1 : mul x y = (1, 0)) (h2 : mul x z = (1, 0)) : y = z := by
  have : mul y (mul x z) = mul (mul x y) z := by rw [← mul_assoc, mul_comm y x]
  rw [h1, h2, mul_one hy, one_mul hz] at this; exact this
theorem one_ok : Ok (1, 0) := by decide
theorem zero_ok : Ok (0, 0) := by decide
theorem mul_zero_iff {x y : E} (hx : Ok x) (hy : Ok y) : mul x y = (0, 0) ↔ x = (0, 0) ∨ y = (0, 0) := by
  constructor
  · intro h
    by_cases h0 : x = (0, 0)
    · exact .inl h0
    · right
      have h1 := mul_inv hx h0
      have : mul (pow x NN) (mul x y) = mul (mul x (pow x NN)) y := by rw [← mul_assoc, mul_comm (pow x NN) x]
      rw [h, h1, mul_zero, one_mul hy] at this; exact this.symm
  · rintro (rfl | rfl)
    · exact zero_mul y
    · exact mul_zero x
theorem norm_mul (x y : E) : norm (mul x y) = norm x * norm y % 10007 := by
  have h : ∀ z : E, norm (red z) = norm z := by
    intro z
    unfold norm red
    simp only
    rw [Int.add_emod, Int.mul_emod, Int.emod_emod_of_dvd _ (Int.dvd_refl _), ← Int.mul_emod, Int.mul_emod (z.2 % 10007), Int.emod_emod_of_dvd _ (Int.dvd_refl _), ← Int.mul_emod, ← Int.add_emod]
  unfold mul
  rw [h]
  unfold norm gmul
  simp only
  rw [← Int.mul_emod]
  congr 1
  grind
end Go.Proofs.Ytokkkeepifpbpaa.Gm
