import Derived.Test.YtokkkeepifpbpaaProg
import Derived.Test.YtokkkeepifpbpaaFlt
import Derived.WalkKit
import Derived.WalkLawsBesides
import Derived.KernelRfl
import Derived.Laws.Externs
import Derived.Lib.Hide
namespace Go.Proofs.Ytokkkeepifpbpaa.Fl
open Flt

theorem bits_of (b : Nat) (w : World) : (callFunc 76 #[.float .f64 b]).run Try.prog w = .ok (.value (.int .u64 b)) w := by
  rw [run_callFunc_extern Try.func76 (by kernel_rfl) (by kernel_rfl) (by kernel_rfl) (e := Extern.MathFloatBits.float64bits) (by kernel_rfl)]; rfl
theorem of_bits (n : Nat) (w : World) : (callFunc 75 #[.int .u64 (n : Int)]).run Try.prog w = .ok (.value (.float .f64 n)) w := by
  rw [run_callFunc_extern Try.func75 (by kernel_rfl) (by kernel_rfl) (by kernel_rfl) (e := Extern.MathFloatBits.float64frombits) (by kernel_rfl)]; rfl

theorem abs_c (b : Nat) (hb : b < 2 ^ 63) (w : World) : Calls Try.prog 72 #[.float .f64 b] w fun e w' => e = .returned (.float .f64 b) ∧ w = w' := by
  have h1 := bits_of b
  have h2 := of_bits b
  have h3 := andNot_sign b hb
  clear hb
  go_enter Try.func72, Try.ntmps72
  go_wp2
  go_ret
  exact ⟨rfl, rfl⟩

/-- a positive normal word is not above the greatest one, is itself, is not 0, is not below the least normal one -/
theorem nan_c (b : Nat) (hb : b < 2047 * 2 ^ 52) (w : World) : Calls Try.prog 70 #[.float .f64 b] w fun e w' => e = .returned (.bool false) ∧ w = w' := by
  have h1 : (FloatKind.f64.format.order b b != some .eq) = false := by rw [order_pos hb hb, Nat.compare_eq_eq.2 rfl]; rfl
  clear hb
  go_enter Try.func70, Try.ntmps70
  go_wp2
  go_ret
  exact ⟨rfl, rfl⟩
theorem inf_c (b : Nat) (hb : b < 2047 * 2 ^ 52) (w : World) : Calls Try.prog 69 #[.float .f64 b, .int .i64 0] w fun e w' => e = .returned (.bool false) ∧ w = w' := by
  have h1 : (FloatKind.f64.format.order b 9218868437227405311 == some .gt) = false := by
    rw [order_pos hb (by decide)]
    rcases Nat.lt_trichotomy b 9218868437227405311 with h | h | h
    · rw [Nat.compare_eq_lt.2 h]; rfl
    · rw [Nat.compare_eq_eq.2 h]; rfl
    · omega
  have h2 : b < 2 ^ 63 := by omega
  clear hb
  go_enter Try.func69, Try.ntmps69
  go_wp2_with (go_at_call 72; refine (abs_c _ h2 _).mono ?_; rintro e w' ⟨rfl, rfl⟩)
  go_ret
  exact ⟨rfl, rfl⟩
theorem normalize_c (b : Nat) (h1 : 2 ^ 52 ≤ b) (hb : b < 2047 * 2 ^ 52) (w : World) : Calls Try.prog 81 #[.float .f64 b] w fun e w' => e = .returned (.tuple #[.float .f64 b, .int .i64 0]) ∧ w = w' := by
  have h3 : (FloatKind.f64.format.order b 4503599627370496 == some .lt) = false := by
    rw [order_pos hb (by decide)]
    rcases Nat.lt_trichotomy b 4503599627370496 with h | h | h
    · omega
    · rw [Nat.compare_eq_eq.2 h]; rfl
    · rw [Nat.compare_eq_gt.2 h]; rfl
  have h2 : b < 2 ^ 63 := by omega
  clear hb h1
  go_enter Try.func81, Try.ntmps81
  go_wp2_with (go_at_call 72; refine (abs_c _ h2 _).mono ?_; rintro e w' ⟨rfl, rfl⟩)
  go_ret2
  exact ⟨rfl, rfl⟩
/-- frexp of a normal word with the exponent's field e and the fraction f -/
theorem frexp0_c (e f b g : Nat) (he : 1 ≤ e) (he2 : e < 2047) (hf : f < 2 ^ 52) (hb : b = e * 2 ^ 52 + f) (hg : g = 1022 * 2 ^ 52 + f) (w : World) : Calls Try.prog 78 #[.float .f64 b] w fun en w' => en = .returned (.tuple #[.float .f64 g, .int .i64 ((e : Int) - 1023 + 1)]) ∧ w = w' := by
  have hlt : b < 2047 * 2 ^ 52 := by omega
  have hle : 2 ^ 52 ≤ b := by omega
  have h0 : (FloatKind.f64.format.order b 0 == some .eq) = false := by
    rw [order_pos hlt (by decide)]
    rcases Nat.lt_trichotomy b 0 with h | h | h
    · omega
    · omega
    · rw [Nat.compare_eq_gt.2 h]; rfl
  have hb0 := bits_of b
  have hc := of_bits g
  have e1 : (b : Int) / 4503599627370496 = (e : Int) := by omega
  have e2 := and_2047 e (by omega)
  have e3 : bits .andNot .u64 (b : Int) 9218868437227405312 = (f : Int) := by rw [andNot_exp b (by omega)]; congr 1; omega
  have e4 : bits .or .u64 (f : Int) 4602678819172646912 = (g : Int) := by
    rw [hg]; exact or_exp 1022 f hf (by omega)
  have he' : (e : Int) < 2047 := by omega
  have he1' : 1 ≤ (e : Int) := by omega
  have E1 := Lib.hid hlt
  have E2 := Lib.hid hle
  clear hg hlt hle hb hf he he2
  go_enter Try.func78, Try.ntmps78
  go_wp2_with (first | (go_at_call 69; refine (inf_c _ E1.out _).mono ?_; rintro en w' ⟨rfl, rfl⟩) | (go_at_call 70; refine (nan_c _ E1.out _).mono ?_; rintro en w' ⟨rfl, rfl⟩) | (go_at_call 81; refine (normalize_c _ E2.out E1.out _).mono ?_; rintro en w' ⟨rfl, rfl⟩))
  go_ret2
  exact ⟨rfl, rfl⟩
theorem frexp_c (e f b g : Nat) (he : 1 ≤ e) (he2 : e < 2047) (hf : f < 2 ^ 52) (hb : b = e * 2 ^ 52 + f) (hg : g = 1022 * 2 ^ 52 + f) (w : World) : Calls Try.prog 73 #[.float .f64 b] w fun en w' => en = .returned (.tuple #[.float .f64 g, .int .i64 ((e : Int) - 1023 + 1)]) ∧ w = w' := by
  have H := Lib.hid (frexp0_c e f b g he he2 hf hb hg)
  clear he he2 hf hb hg
  go_enter Try.func73, Try.ntmps73
  go_wp2_with (go_at_call 78; refine (H.out _).mono ?_; rintro en w' ⟨rfl, rfl⟩)
  go_ret2
  exact ⟨rfl, rfl⟩

/-- the word of a whole number, taken apart -/
theorem frexp_nat (n : Nat) (h0 : n ≠ 0) (h : n < 2 ^ 53) (w : World) : Calls Try.prog 73 #[.float .f64 (fw n)] w fun en w' => en = .returned (.tuple #[.float .f64 (1021 * 2 ^ 52 + n * 2 ^ (52 - n.log2)), .int .i64 ((n.log2 : Int) + 1)]) ∧ w = w' := by
  have hL := log2_le h
  obtain ⟨s1, s2⟩ := sig_bounds h0 h
  obtain ⟨f1, f2⟩ := fw_split h0 h
  refine (frexp_c (1023 + n.log2) (n * 2 ^ (52 - n.log2) - 2 ^ 52) (fw n) (1021 * 2 ^ 52 + n * 2 ^ (52 - n.log2)) (by omega) (by omega) f2 f1 (by omega) w).mono ?_
  rintro en w' ⟨rfl, rfl⟩
  refine ⟨?_, rfl⟩
  rw [show ((1023 + n.log2 : Nat) : Int) - 1023 + 1 = (n.log2 : Int) + 1 by omega]

set_option maxRecDepth 100000 in
/-- ldexp of the prime: the prime times a power of 2 -/
theorem ldexp0_c (b g f j : Nat) (hj : j ≤ 39) (hf : f = 10007 * 2 ^ 39 - 2 ^ 52) (hb : b = 1036 * 2 ^ 52 + f) (hg : g = (1036 + j) * 2 ^ 52 + f) (hW : fw (10007 * 2 ^ j) = g) (hn : 10007 * 2 ^ j < 2 ^ 53) (w : World) : Calls Try.prog 80 #[.float .f64 b, .int .i64 (j : Int)] w fun en w' => en = .returned (.float .f64 g) ∧ w = w' := by
  have hlt : b < 2047 * 2 ^ 52 := by omega
  have hle : 2 ^ 52 ≤ b := by omega
  have hf2 : f < 2 ^ 52 := by omega
  have h0 : (FloatKind.f64.format.order b 0 == some .eq) = false := by
    rw [order_pos hlt (by decide)]
    rcases Nat.lt_trichotomy b 0 with h | h | h
    · omega
    · omega
    · rw [Nat.compare_eq_gt.2 h]; rfl
  have hb0 := bits_of b
  have hc := of_bits g
  have e1 : (b : Int) / 4503599627370496 = ((1036 : Nat) : Int) := by omega
  have e2 : bits .and .i64 1036 2047 = 1036 := iand_2047 1036 (by omega)
  have e3 : bits .andNot .u64 (b : Int) 9218868437227405312 = (f : Int) := by rw [andNot_exp b (by omega)]; congr 1; omega
  have e4 : bits .or .u64 (f : Int) (((j : Int) + 13 + 1023) * 4503599627370496) = (g : Int) := by
    have := or_exp (1036 + j) f hf2 (by omega)
    have e : (((1036 + j) * 2 ^ 52 : Nat) : Int) = ((j : Int) + 13 + 1023) * 4503599627370496 := by omega
    rw [e] at this
    rw [hg, ← this]
  have e5 : floatBits .mul .f64 4607182418800017408 g = some g := by
    have := mul_W 1 ((10007 * 2 ^ j : Nat) : Int) (by omega) (by omega) (by omega) (by omega) (by omega)
    rw [W_one, W_nat, Int.one_mul, W_nat, hW] at this; exact this
  have e6 := fun t w => run_float_arith (P := Try.prog) w .mul t .f64 4607182418800017408 g g e5
  have E1 := Lib.hid hlt
  have E2 := Lib.hid hle
  have hj' : (j : Int) ≤ 39 := by omega
  clear hg hlt hle hb hf hf2 hj hn hW e5
  go_enter Try.func80, Try.ntmps80
  go_wp2_with (first | (go_at_call 69; refine (inf_c _ E1.out _).mono ?_; rintro en w' ⟨rfl, rfl⟩) | (go_at_call 70; refine (nan_c _ E1.out _).mono ?_; rintro en w' ⟨rfl, rfl⟩) | (go_at_call 81; refine (normalize_c _ E2.out E1.out _).mono ?_; rintro en w' ⟨rfl, rfl⟩))
  go_ret
  exact ⟨rfl, rfl⟩
theorem ldexp_c (b g f j : Nat) (hj : j ≤ 39) (hf : f = 10007 * 2 ^ 39 - 2 ^ 52) (hb : b = 1036 * 2 ^ 52 + f) (hg : g = (1036 + j) * 2 ^ 52 + f) (hW : fw (10007 * 2 ^ j) = g) (hn : 10007 * 2 ^ j < 2 ^ 53) (w : World) : Calls Try.prog 74 #[.float .f64 b, .int .i64 (j : Int)] w fun en w' => en = .returned (.float .f64 g) ∧ w = w' := by
  have H := Lib.hid (ldexp0_c b g f j hj hf hb hg hW hn)
  clear hj hf hb hg hW hn
  go_enter Try.func74, Try.ntmps74
  go_wp2_with (go_at_call 80; refine (H.out _).mono ?_; rintro en w' ⟨rfl, rfl⟩)
  go_ret
  exact ⟨rfl, rfl⟩

theorem log2_prime (j : Nat) : (10007 * 2 ^ j).log2 = 13 + j := by
  rw [log2_mul_pow (by decide), show Nat.log2 10007 = 13 by decide]
/-- the prime times a power of 2 out of ldexp -/
theorem ldexp_prime (j : Nat) (hj : j ≤ 39) (w : World) : Calls Try.prog 74 #[.float .f64 (1036 * 2 ^ 52 + (10007 * 2 ^ 39 - 2 ^ 52)), .int .i64 (j : Int)] w fun en w' => en = .returned (.float .f64 (fw (10007 * 2 ^ j))) ∧ w = w' := by
  have hn : 10007 * 2 ^ j < 2 ^ 53 := by
    have : 2 ^ j ≤ 2 ^ 39 := Nat.pow_le_pow_right (by decide) hj
    omega
  have hp : 0 < 2 ^ j := Nat.two_pow_pos j
  have hW : fw (10007 * 2 ^ j) = (1036 + j) * 2 ^ 52 + (10007 * 2 ^ 39 - 2 ^ 52) := by
    rw [fw_pos (by omega), log2_prime, Nat.mul_assoc, ← Nat.pow_add, show j + (52 - (13 + j)) = 39 by omega]
    omega
  rw [hW]
  exact ldexp_c _ _ _ j hj rfl rfl rfl hW hn w

theorem lss_zero (n : Nat) (h : n < 2 ^ 53) : (FloatKind.f64.format.order (fw n) 0 == some .lt) = false := by
  have := order_W (n : Int) 0 (by omega) (by decide +kernel)
  rw [W_nat, W_zero] at this
  rw [this]
  rcases Int.lt_trichotomy (n : Int) 0 with h | h | h
  · omega
  · rw [Int.compare_eq_eq.2 h]; rfl
  · rw [Int.compare_eq_gt.2 h]; rfl
theorem geq_W (a b : Nat) (ha : a < 2 ^ 53) (hb : b < 2 ^ 53) : (FloatKind.f64.format.order (fw a) (fw b) == some .gt || FloatKind.f64.format.order (fw a) (fw b) == some .eq) = decide (b ≤ a) := by
  have := order_W (a : Int) (b : Int) (by omega) (by omega)
  rw [W_nat, W_nat] at this
  rw [this]
  rcases Int.lt_trichotomy (a : Int) (b : Int) with h | h | h
  · rw [Int.compare_eq_lt.2 h, decide_eq_false (by omega)]; rfl
  · rw [Int.compare_eq_eq.2 h, decide_eq_true (by omega)]; rfl
  · rw [Int.compare_eq_gt.2 h, decide_eq_true (by omega)]; rfl
theorem lss_fr (a : Nat) (h0 : a ≠ 0) (ha : a < 2 ^ 53) : (FloatKind.f64.format.order (1021 * 2 ^ 52 + a * 2 ^ (52 - a.log2)) (1021 * 2 ^ 52 + 10007 * 2 ^ 39) == some .lt) = decide (a * 2 ^ (52 - a.log2) < 10007 * 2 ^ 39) := by
  obtain ⟨s1, s2⟩ := sig_bounds h0 ha
  rw [order_pos (by omega) (by omega)]
  generalize a * 2 ^ (52 - a.log2) = s at *
  rcases Nat.lt_trichotomy (1021 * 2 ^ 52 + s) (1021 * 2 ^ 52 + 10007 * 2 ^ 39) with h | h | h
  · rw [Nat.compare_eq_lt.2 h, decide_eq_true (by omega)]; rfl
  · rw [Nat.compare_eq_eq.2 h, decide_eq_false (by omega)]; rfl
  · rw [Nat.compare_eq_gt.2 h, decide_eq_false (by omega)]; rfl
theorem fw_lt_fw {r s : Nat} (hs : s < 2 ^ 53) (h : r < s) : fw r < fw s := by
  have h1 := order_pos (fw_lt_inf (show r < 2 ^ 53 by omega)) (fw_lt_inf hs)
  have h2 := order_W (r : Int) (s : Int) (by omega) (by omega)
  rw [W_nat, W_nat, h1, Int.compare_eq_lt.2 (by omega)] at h2
  exact Nat.compare_eq_lt.1 (Option.some.inj h2)
end Go.Proofs.Ytokkkeepifpbpaa.Fl
