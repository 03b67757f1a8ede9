import Derived.Test.YtokkkeepifpbpaaFw
import Derived.Deep.RegionWith
import Derived.Outline
namespace Go.Proofs.Ytokkkeepifpbpaa.Fl
open Flt
open Go.RowKit

def YF : Nat := 1021 * 2 ^ 52 + 10007 * 2 ^ 39
def PW : Nat := 4666727020758040576
theorem PW_eq : PW = fw 10007 := fw_10007.symm
theorem fr_prime : 1021 * 2 ^ 52 + 10007 * 2 ^ (52 - Nat.log2 10007) = YF := by
  rw [show Nat.log2 10007 = 13 by decide]; rfl
theorem frexp_y (w : World) : Calls Try.prog 73 #[.float .f64 PW] w fun en w' => en = .returned (.tuple #[.float .f64 YF, .int .i64 14]) ∧ w = w' := by
  have h := frexp_nat 10007 (by decide) (by decide) w
  rw [fr_prime, show Nat.log2 10007 = 13 by decide, ← PW_eq] at h
  exact h
def fr (n : Nat) : Nat := 1021 * 2 ^ 52 + n * 2 ^ (52 - n.log2)
theorem frexp_fr (n : Nat) (h0 : n ≠ 0) (h : n < 2 ^ 53) (w : World) : Calls Try.prog 73 #[.float .f64 (fw n)] w fun en w' => en = .returned (.tuple #[.float .f64 (fr n), .int .i64 ((n.log2 : Int) + 1)]) ∧ w = w' := frexp_nat n h0 h w
theorem lss_fr' (a : Nat) (h0 : a ≠ 0) (ha : a < 2 ^ 53) : (FloatKind.f64.format.order (fr a) YF == some .lt) = decide (a * 2 ^ (52 - a.log2) < 10007 * 2 ^ 39) := lss_fr a h0 ha
theorem ldexp_pw (j : Nat) (hj : j ≤ 39) (w : World) : Calls Try.prog 74 #[.float .f64 PW, .int .i64 (j : Int)] w fun en w' => en = .returned (.float .f64 (fw (10007 * 2 ^ j))) ∧ w = w' := ldexp_prime j hj w
/-- one step of the rest -/
def lowr (r : Nat) : Nat := if r * 2 ^ (52 - r.log2) < 10007 * 2 ^ 39 then r.log2 - 14 else r.log2 - 13
theorem step_ok {r : Nat} (h : 10007 ≤ r) (hr : r < 2 ^ 53) : (r * 2 ^ (52 - r.log2) < 10007 * 2 ^ 39 → 14 ≤ r.log2) ∧ 13 ≤ r.log2 ∧ r.log2 ≤ 52 ∧ 10007 * 2 ^ lowr r ≤ r ∧ lowr r ≤ 39 := by
  have h0 : r ≠ 0 := by omega
  have hL := log2_le hr
  have h1 := Nat.log2_self_le h0
  have h13 : 13 ≤ r.log2 := (Nat.le_log2 h0).2 (by omega)
  have e14 : r * 2 ^ (52 - r.log2) < 10007 * 2 ^ 39 → 14 ≤ r.log2 := by
    intro hlt
    by_cases e : r.log2 = 13
    · rw [e] at hlt; omega
    · omega
  refine ⟨e14, h13, hL, ?_, ?_⟩
  · unfold lowr
    split
    · rename_i hlt
      have := e14 hlt
      have e : (2:Nat) ^ r.log2 = 2 ^ 14 * 2 ^ (r.log2 - 14) := by rw [← Nat.pow_add]; congr 1; omega
      have : 10007 * 2 ^ (r.log2 - 14) ≤ 2 ^ 14 * 2 ^ (r.log2 - 14) := Nat.mul_le_mul_right _ (by decide)
      omega
    · rename_i hge
      have e : (2:Nat) ^ 39 = 2 ^ (r.log2 - 13) * 2 ^ (52 - r.log2) := by rw [← Nat.pow_add]; congr 1; omega
      have h2 : 10007 * 2 ^ (r.log2 - 13) * 2 ^ (52 - r.log2) ≤ r * 2 ^ (52 - r.log2) := by
        rw [Nat.mul_assoc, ← e]; omega
      exact Nat.le_of_mul_le_mul_right h2 (Nat.two_pow_pos _)
  · unfold lowr; split <;> omega
theorem mod_step {r : Nat} (h : 10007 * 2 ^ lowr r ≤ r) : (r - 10007 * 2 ^ lowr r) % 10007 = r % 10007 := by
  have : r = (r - 10007 * 2 ^ lowr r) + 10007 * 2 ^ lowr r := by omega
  conv => rhs; rw [this]
  rw [Nat.add_mul_mod_self_left]
theorem sub_fw (r s : Nat) (hr : r < 2 ^ 53) (h : s ≤ r) : floatBits .sub .f64 (fw r) (fw s) = some (fw (r - s)) := by
  have := sub_W (r : Int) (s : Int) (by omega) (by omega) (by omega)
  rw [W_nat, W_nat, show (r : Int) - (s : Int) = ((r - s : Nat) : Int) by omega, W_nat] at this
  exact this

def fbits : Value → Nat | .float _ b => b | _ => 0
/-- the words of numbers below 0 (and of the other 0) -/
def ng (m : Nat) : Nat := 2 ^ 63 + fw m
theorem ng_lt {m : Nat} (h : m < 2 ^ 53) : ng m < 2 ^ 64 := by have := fw_lt_inf h; unfold ng; omega
theorem andNot_ng {m : Nat} (h : m < 2 ^ 53) : bits .andNot .u64 (ng m : Int) 9223372036854775808 = (fw m : Int) := by
  have hb := fw_lt_inf h
  rw [show (9223372036854775808 : Int) = ((9223372036854775808 : Nat) : Int) from rfl, u64_andNot_nat (ng m) _ (ng_lt h) (by omega)]
  congr 1
  rw [show 18446744073709551615 - 9223372036854775808 = 2 ^ 63 - 1 from rfl, Nat.and_two_pow_sub_one_eq_mod]
  unfold ng; omega
theorem abs_ng (m : Nat) (h : m < 2 ^ 53) (w : World) : Calls Try.prog 72 #[.float .f64 (ng m)] w fun e w' => e = .returned (.float .f64 (fw m)) ∧ w = w' := by
  have h1 := bits_of (ng m)
  have h2 := of_bits (fw m)
  have h3 := andNot_ng h
  clear h
  go_enter Try.func72, Try.ntmps72
  go_wp2
  go_ret
  exact ⟨rfl, rfl⟩
theorem order_ng {m : Nat} (h0 : 0 < m) (h : m < 2 ^ 53) : FloatKind.f64.format.order (ng m) 0 = some .lt := by
  have := order_W (-(m : Int)) 0 (by omega) (by decide +kernel)
  rw [W_neg (by omega), W_zero, show (-(m : Int)).natAbs = m by omega, Int.compare_eq_lt.2 (by omega)] at this
  exact this
theorem order_ng_self {m : Nat} (h : m < 2 ^ 53) : FloatKind.f64.format.order (ng m) (ng m) = some .eq := by
  have h1 := read_fw true m h
  simp only [if_true] at h1
  show Ieee.double.order (ng m) (ng m) = _
  unfold Ieee.Format.order ng
  rw [h1]
  simp only [Ieee.Datum.order]
  rw [Int.compare_eq_eq.2 rfl]
theorem nan_ng (m : Nat) (h : m < 2 ^ 53) (w : World) : Calls Try.prog 70 #[.float .f64 (ng m)] w fun e w' => e = .returned (.bool false) ∧ w = w' := by
  have h1 : (FloatKind.f64.format.order (ng m) (ng m) != some .eq) = false := by rw [order_ng_self h]; rfl
  clear h
  go_enter Try.func70, Try.ntmps70
  go_wp2
  go_ret
  exact ⟨rfl, rfl⟩
theorem inf_ng (m : Nat) (h : m < 2 ^ 53) (w : World) : Calls Try.prog 69 #[.float .f64 (ng m), .int .i64 0] w fun e w' => e = .returned (.bool false) ∧ w = w' := by
  have hb := fw_lt_inf h
  have h1 : (FloatKind.f64.format.order (fw m) 9218868437227405311 == some .gt) = false := by
    rw [order_pos hb (by decide)]
    rcases Nat.lt_trichotomy (fw m) 9218868437227405311 with h | h | h
    · rw [Nat.compare_eq_lt.2 h]; rfl
    · rw [Nat.compare_eq_eq.2 h]; rfl
    · omega
  have H := Lib.hid (abs_ng m h)
  clear hb h
  go_enter Try.func69, Try.ntmps69
  go_wp2_with (go_at_call 72; refine (H.out _).mono ?_; rintro e w' ⟨rfl, rfl⟩)
  go_ret
  exact ⟨rfl, rfl⟩
theorem neg_fw {m : Nat} (h : m < 2 ^ 53) : Op.unary .neg (.float .f64 (fw m)) = pure (.float .f64 (ng m)) := by
  have hb := fw_lt_inf h
  show (pure (.float .f64 (fw m ^^^ 2 ^ 63)) : Sem Value) = _
  have e : fw m ^^^ 2 ^ 63 = ng m := by
    unfold ng
    apply Nat.eq_of_testBit_eq
    intro i
    rw [Nat.testBit_xor, Nat.testBit_two_pow]
    by_cases hi : 63 = i
    · subst hi; rw [Nat.testBit_two_pow_add_eq, Nat.testBit_lt_two_pow (by omega)]; rfl
    · by_cases hl : i < 63
      · rw [Nat.testBit_two_pow_add_gt hl]; simp [hi]
      · rw [Nat.testBit_lt_two_pow (show fw m < 2 ^ i from Nat.lt_of_lt_of_le (show fw m < 2 ^ 63 by omega) (Nat.pow_le_pow_right (by decide) (by omega))), Nat.testBit_lt_two_pow (show 2 ^ 63 + fw m < 2 ^ i from Nat.lt_of_lt_of_le (show 2 ^ 63 + fw m < 2 ^ 64 by omega) (Nat.pow_le_pow_right (by decide) (by omega)))]
        simp [hi]
  rw [e]
theorem neg_ng {m : Nat} (h : m < 2 ^ 53) : Op.unary .neg (.float .f64 (ng m)) = pure (.float .f64 (fw m)) := by
  have h1 := neg_fw h
  have h2 : fw m ^^^ 2 ^ 63 = ng m := by
    have h3 : (pure (.float .f64 (fw m ^^^ 2 ^ 63)) : Sem Value) = pure (.float .f64 (ng m)) := h1
    have h4 := congrArg (fun s : Sem Value => Sem.run Try.prog s default) h3
    simpa using h4
  show (pure (.float .f64 (ng m ^^^ 2 ^ 63)) : Sem Value) = _
  rw [← h2, Nat.xor_assoc, Nat.xor_self, Nat.xor_zero]

theorem mod_pos (n : Nat) (hn : n < 2 ^ 53) (w : World) : Calls Try.prog 68 #[.float .f64 (fw n), .float .f64 PW] w fun en w' => en = .returned (.float .f64 (fw (n % 10007))) ∧ w = w' := by
  have hlt := fw_lt_inf hn
  have hplt : PW < 2047 * 2 ^ 52 := by decide
  have h0 : (FloatKind.f64.format.order PW 0 == some .eq) = false := by
    rw [order_pos hplt (by decide)]
    rfl
  have hl := lss_zero n hn
  have I1 := Lib.hid (inf_c (fw n) hlt)
  have I2 := Lib.hid (nan_c (fw n) hlt)
  have E2 := Lib.hid hplt
  have E3 := Lib.hid (show PW < 2 ^ 63 by decide)
  have EN := Lib.hid hn
  clear hlt hplt hn
  go_enter Try.func68, Try.ntmps68
  go_wp2_with (first | (go_at_call 69; refine (I1.out _).mono ?_; rintro en w' ⟨rfl, rfl⟩) | (go_at_call_of 70 (Value.float .f64 PW); refine (nan_c _ E2.out _).mono ?_; rintro en w' ⟨rfl, rfl⟩) | (go_at_call 70; refine (I2.out _).mono ?_; rintro en w' ⟨rfl, rfl⟩) | (go_at_call 72; refine (abs_c _ E3.out _).mono ?_; rintro en w' ⟨rfl, rfl⟩) | (go_at_call 73; refine (frexp_y _).mono ?_; rintro en w' ⟨rfl, rfl⟩))
  go_loop [7] (fun v => ∃ r : Nat, r < 2 ^ 53 ∧ Hid (r % 10007 = n % 10007) ∧ v = .float .f64 (fw r)) (fun v => fbits v)
  case atStart => exact ⟨n, EN.out, Lib.hid rfl, rfl⟩
  case round =>
    obtain ⟨r, hr, HR, rfl⟩ := hrel
    have hO := order_W (r : Int) (10007 : Int) (by omega) (by decide +kernel)
    rw [W_nat, W_10007] at hO
    have hO2 : FloatKind.f64.format.order (fw r) PW = some (compare (r : Int) (10007 : Int)) := hO
    clear hO
    by_cases hc : r < 10007
    · rw [Int.compare_eq_lt.2 (by omega)] at hO2
      go_wp2
      go_ret
      rw [← HR.out, Nat.mod_eq_of_lt hc]
      exact ⟨rfl, rfl⟩
    · obtain ⟨q14, q13, q52, qle, q39⟩ := step_ok (show 10007 ≤ r by omega) hr
      have hsub := sub_fw r _ hr qle
      have hF := Lib.hid (frexp_fr r (by omega) hr)
      have hm := Lib.hid (mod_step qle)
      have hlw := Lib.hid (fw_lt_fw hr (show r - 10007 * 2 ^ lowr r < r from by have := Nat.two_pow_pos (lowr r); omega))
      have hS := lss_fr' r (by omega) hr
      have hLd := Lib.hid (ldexp_pw (lowr r) q39)
      have hO3 : (FloatKind.f64.format.order (fw r) PW == some .gt || FloatKind.f64.format.order (fw r) PW == some .eq) = true := by
        rw [hO2]
        by_cases e : r = 10007
        · rw [Int.compare_eq_eq.2 (by omega)]; rfl
        · rw [Int.compare_eq_gt.2 (by omega)]; rfl
      clear hO2
      have hs3 := fun t w => run_float_arith (P := Try.prog) w .sub t .f64 (fw r) _ _ hsub
      clear hsub qle
      have hb1 : (r.log2 : Int) ≤ 52 := by omega
      by_cases hd : r * 2 ^ (52 - r.log2) < 10007 * 2 ^ 39
      · have hj : (r.log2 : Int) - 14 = (lowr r : Int) := by
          have := q14 hd
          unfold lowr; rw [if_pos hd]; omega
        rw [decide_eq_true hd] at hS
        have HJ := Lib.hid hj
        have hb2 : 14 ≤ (r.log2 : Int) := by have := q14 hd; omega
        clear hj hd q14 q13
        go_wp2_with (first | (go_at_call 73; refine (hF.out _).mono ?_; rintro en w' ⟨rfl, rfl⟩))
        rw [HJ.out]
        refine (hLd.out _).mono ?_
        rintro en w' ⟨rfl, rfl⟩
        go_wp2
        go_round
        case rel => exact ⟨r - 10007 * 2 ^ lowr r, by omega, Lib.hid (hm.out.trans HR.out), rfl⟩
        case measure => exact hlw.out
      · have hj : (r.log2 : Int) + 1 - 14 = (lowr r : Int) := by
          unfold lowr; rw [if_neg hd]; omega
        rw [decide_eq_false hd] at hS
        have HJ := Lib.hid hj
        clear hj hd q14
        go_wp2_with (first | (go_at_call 73; refine (hF.out _).mono ?_; rintro en w' ⟨rfl, rfl⟩))
        rw [HJ.out]
        refine (hLd.out _).mono ?_
        rintro en w' ⟨rfl, rfl⟩
        go_wp2
        go_round
        case rel => exact ⟨r - 10007 * 2 ^ lowr r, by omega, Lib.hid (hm.out.trans HR.out), rfl⟩
        case measure => exact hlw.out
theorem mod_neg (n : Nat) (hpos : 0 < n) (hn : n < 2 ^ 53) (w : World) : Calls Try.prog 68 #[.float .f64 (ng n), .float .f64 PW] w fun en w' => en = .returned (.float .f64 (ng (n % 10007))) ∧ w = w' := by
  have hlt := fw_lt_inf hn
  have hplt : PW < 2047 * 2 ^ 52 := by decide
  have h0 : (FloatKind.f64.format.order PW 0 == some .eq) = false := by
    rw [order_pos hplt (by decide)]
    rfl
  have hl : (FloatKind.f64.format.order (ng n) 0 == some .lt) = true := by rw [order_ng hpos hn]; rfl
  have hng := neg_ng hn
  have I1 := Lib.hid (inf_ng n hn)
  have I2 := Lib.hid (nan_ng n hn)
  have E2 := Lib.hid hplt
  have E3 := Lib.hid (show PW < 2 ^ 63 by decide)
  have EN := Lib.hid hn
  clear hlt hplt hn hpos
  go_enter Try.func68, Try.ntmps68
  go_wp2_with (first | (go_at_call 69; refine (I1.out _).mono ?_; rintro en w' ⟨rfl, rfl⟩) | (go_at_call_of 70 (Value.float .f64 PW); refine (nan_c _ E2.out _).mono ?_; rintro en w' ⟨rfl, rfl⟩) | (go_at_call 70; refine (I2.out _).mono ?_; rintro en w' ⟨rfl, rfl⟩) | (go_at_call 72; refine (abs_c _ E3.out _).mono ?_; rintro en w' ⟨rfl, rfl⟩) | (go_at_call 73; refine (frexp_y _).mono ?_; rintro en w' ⟨rfl, rfl⟩))
  go_loop [7] (fun v => ∃ r : Nat, r < 2 ^ 53 ∧ Hid (r % 10007 = n % 10007) ∧ v = .float .f64 (fw r)) (fun v => fbits v)
  case atStart => exact ⟨n, EN.out, Lib.hid rfl, rfl⟩
  case round =>
    obtain ⟨r, hr, HR, rfl⟩ := hrel
    have hO := order_W (r : Int) (10007 : Int) (by omega) (by decide +kernel)
    rw [W_nat, W_10007] at hO
    have hO2 : FloatKind.f64.format.order (fw r) PW = some (compare (r : Int) (10007 : Int)) := hO
    clear hO
    by_cases hc : r < 10007
    · rw [Int.compare_eq_lt.2 (by omega)] at hO2
      have hnr := neg_fw hr
      go_wp2
      go_ret
      rw [← HR.out, Nat.mod_eq_of_lt hc]
      exact ⟨rfl, rfl⟩
    · obtain ⟨q14, q13, q52, qle, q39⟩ := step_ok (show 10007 ≤ r by omega) hr
      have hsub := sub_fw r _ hr qle
      have hF := Lib.hid (frexp_fr r (by omega) hr)
      have hm := Lib.hid (mod_step qle)
      have hlw := Lib.hid (fw_lt_fw hr (show r - 10007 * 2 ^ lowr r < r from by have := Nat.two_pow_pos (lowr r); omega))
      have hS := lss_fr' r (by omega) hr
      have hLd := Lib.hid (ldexp_pw (lowr r) q39)
      have hO3 : (FloatKind.f64.format.order (fw r) PW == some .gt || FloatKind.f64.format.order (fw r) PW == some .eq) = true := by
        rw [hO2]
        by_cases e : r = 10007
        · rw [Int.compare_eq_eq.2 (by omega)]; rfl
        · rw [Int.compare_eq_gt.2 (by omega)]; rfl
      clear hO2
      have hs3 := fun t w => run_float_arith (P := Try.prog) w .sub t .f64 (fw r) _ _ hsub
      clear hsub qle
      have hb1 : (r.log2 : Int) ≤ 52 := by omega
      by_cases hd : r * 2 ^ (52 - r.log2) < 10007 * 2 ^ 39
      · have hj : (r.log2 : Int) - 14 = (lowr r : Int) := by
          have := q14 hd
          unfold lowr; rw [if_pos hd]; omega
        rw [decide_eq_true hd] at hS
        have HJ := Lib.hid hj
        have hb2 : 14 ≤ (r.log2 : Int) := by have := q14 hd; omega
        clear hj hd q14 q13
        go_wp2_with (first | (go_at_call 73; refine (hF.out _).mono ?_; rintro en w' ⟨rfl, rfl⟩))
        rw [HJ.out]
        refine (hLd.out _).mono ?_
        rintro en w' ⟨rfl, rfl⟩
        go_wp2
        go_round
        case rel => exact ⟨r - 10007 * 2 ^ lowr r, by omega, Lib.hid (hm.out.trans HR.out), rfl⟩
        case measure => exact hlw.out
      · have hj : (r.log2 : Int) + 1 - 14 = (lowr r : Int) := by
          unfold lowr; rw [if_neg hd]; omega
        rw [decide_eq_false hd] at hS
        have HJ := Lib.hid hj
        clear hj hd q14
        go_wp2_with (first | (go_at_call 73; refine (hF.out _).mono ?_; rintro en w' ⟨rfl, rfl⟩))
        rw [HJ.out]
        refine (hLd.out _).mono ?_
        rintro en w' ⟨rfl, rfl⟩
        go_wp2
        go_round
        case rel => exact ⟨r - 10007 * 2 ^ lowr r, by omega, Lib.hid (hm.out.trans HR.out), rfl⟩
        case measure => exact hlw.out
theorem mod_c (x b : Nat) (H : ∀ w, Calls Try.prog 68 #[.float .f64 x, .float .f64 PW] w fun en w' => en = .returned (.float .f64 b) ∧ w = w') (w : World) : Calls Try.prog 64 #[.float .f64 x, .float .f64 PW] w fun en w' => en = .returned (.float .f64 b) ∧ w = w' := by
  have HH := Lib.hid H
  clear H
  go_enter Try.func64, Try.ntmps64
  go_wp2_with (go_at_call 68; refine (HH.out _).mono ?_; rintro en w' ⟨rfl, rfl⟩)
  go_ret
  exact ⟨rfl, rfl⟩
theorem add_pos {q : Nat} (h : q < 2 ^ 52) : floatBits .add .f64 (fw q) PW = some (fw (q + 10007)) := by
  have := add_W (q : Int) (10007 : Int) (by omega) (by decide +kernel) (by omega)
  rw [W_nat, W_10007, show (q : Int) + 10007 = ((q + 10007 : Nat) : Int) by omega, W_nat] at this
  exact this
theorem add_ng {q : Nat} (h : q < 10007) : floatBits .add .f64 (ng q) PW = some (fw (10007 - q)) := by
  have h1 := read_fw true q (by omega)
  simp only [if_true] at h1
  have h2 := read_W 10007 (by decide +kernel)
  rw [W_10007] at h2
  show Ieee.double.add (ng q) PW = _
  unfold Ieee.Format.add ng PW
  rw [h1, h2]
  have e : (10007 : Int) - (q : Int) = ((10007 - q : Nat) : Int) := by omega
  have := sum_of (-(q : Int)) 10007 true (decide ((10007 : Int) < 0)) (kk q) (kk (10007 : Int).natAbs) (fun h => by simp; omega) (fun _ => rfl) (fun h => by omega) (by omega)
  rw [show (-(q : Int)).natAbs = q by omega, show -(q : Int) + 10007 = ((10007 - q : Nat) : Int) by omega, W_nat] at this
  exact this
theorem part_go (x y z : Nat) (r : Int) (H1 : ∀ w, Calls Try.prog 64 #[.float .f64 x, .float .f64 PW] w fun en w' => en = .returned (.float .f64 y) ∧ w = w')
    (ha : floatBits .add .f64 y PW = some z) (u : Nat) (H2 : ∀ w, Calls Try.prog 64 #[.float .f64 z, .float .f64 PW] w fun en w' => en = .returned (.float .f64 u) ∧ w = w') (hi : floatToIntVal .f64 u .i64 = some r) (w : World) :
    Calls Try.prog 55 #[.float .f64 x] w fun en w' => en = .returned (.int .i64 r) ∧ w = w' := by
  have a1 : ∀ t w, (binOp .add t (.float .f64 y) (.float .f64 4666727020758040576)).run Try.prog w = .ok (.float .f64 z) w := fun t w => run_float_arith (P := Try.prog) w .add t .f64 y PW z ha
  have a2 : ∀ w, (convert 74 3 (.float .f64 u)).run Try.prog w = .ok (.int .i64 r) w := fun w => run_convert_float_int w _ _ .f64 .i64 u r (by rw [Try.underlying74]; rfl) Try.underlying3 hi
  have G1 := Lib.hid H1
  have G2 := Lib.hid H2
  clear H1 H2 ha hi
  go_enter Try.func55, Try.ntmps55
  go_wp2_with fail
  refine (G1.out _).mono ?_
  rintro en w' ⟨rfl, rfl⟩
  go_wp2_with fail
  refine (G2.out _).mono ?_
  rintro en w' ⟨rfl, rfl⟩
  go_wp2
  go_ret
  exact ⟨rfl, rfl⟩
/-- a whole number modulo the prime -/
theorem part_c (z : Int) (hz : z.natAbs < 2 ^ 52) (w : World) : Calls Try.prog 55 #[.float .f64 (W z)] w fun en w' => en = .returned (.int .i64 (z % 10007)) ∧ w = w' := by
  have hti : ∀ r : Nat, r < 10007 → floatToIntVal .f64 (fw r) .i64 = some (r : Int) := fun r hr => by
    have := toInt_W (r : Int) (by omega)
    rw [W_nat] at this; exact this
  by_cases h : z < 0
  · have hn : z.natAbs < 2 ^ 53 := by omega
    have hq : z.natAbs % 10007 < 10007 := Nat.mod_lt _ (by decide)
    rw [W_neg h]
    refine part_go (ng z.natAbs) (ng (z.natAbs % 10007)) (fw (10007 - z.natAbs % 10007)) _ (mod_c _ _ (mod_neg z.natAbs (by omega) hn)) (add_ng hq) (fw ((10007 - z.natAbs % 10007) % 10007)) (mod_c _ _ (mod_pos _ (by omega))) ?_ w
    exact (hti _ (Nat.mod_lt _ (by decide))).trans (congrArg some (by omega))
  · have hn : z.natAbs < 2 ^ 53 := by omega
    have hq : z.natAbs % 10007 < 10007 := Nat.mod_lt _ (by decide)
    have e : z = (z.natAbs : Int) := by omega
    rw [e, W_nat]
    refine part_go (fw z.natAbs) (fw (z.natAbs % 10007)) (fw (z.natAbs % 10007 + 10007)) _ (mod_c _ _ (mod_pos z.natAbs hn)) (add_pos (by omega)) (fw ((z.natAbs % 10007 + 10007) % 10007)) (mod_c _ _ (mod_pos _ (by omega))) ?_ w
    exact (hti _ (Nat.mod_lt _ (by decide))).trans (congrArg some (by omega))
end Go.Proofs.Ytokkkeepifpbpaa.Fl
