import Derived.Laws.FloatArith
import Derived.Laws.BitsAllLaws
import Derived.Laws.BitsLemmas
namespace Go.Proofs.Ytokkkeepifpbpaa.Flt
open Ieee

/-- The word of a whole number above 0. -/
def fw (n : Nat) : Nat := if n = 0 then 0 else (1022 + n.log2) * 2 ^ 52 + n * 2 ^ (52 - n.log2)
/-- The place of the last digit that is written. -/
def kk (n : Nat) : Nat := if n = 0 then 1074 else 52 - n.log2
/-- The word of a whole number. -/
def W (n : Int) : Nat := if n < 0 then 2 ^ 63 + fw n.natAbs else fw n.natAbs

theorem log2_le {n : Nat} (h : n < 2 ^ 53) : n.log2 ≤ 52 := by
  by_cases h0 : n = 0
  · subst h0; decide
  · have := (Nat.log2_lt h0).2 h; omega

theorem sig_bounds {n : Nat} (h0 : n ≠ 0) (h : n < 2 ^ 53) : 2 ^ 52 ≤ n * 2 ^ (52 - n.log2) ∧ n * 2 ^ (52 - n.log2) < 2 ^ 53 := by
  have hL := log2_le h
  have h1 := Nat.log2_self_le h0
  have h2 := Nat.lt_log2_self (n := n)
  have e1 : (2:Nat) ^ 52 = 2 ^ n.log2 * 2 ^ (52 - n.log2) := by rw [← Nat.pow_add]; congr 1; omega
  have e2 : (2:Nat) ^ 53 = 2 ^ (n.log2 + 1) * 2 ^ (52 - n.log2) := by rw [← Nat.pow_add]; congr 1; omega
  constructor
  · rw [e1]; exact Nat.mul_le_mul_right _ h1
  · rw [e2]; exact Nat.mul_lt_mul_of_pos_right h2 (Nat.two_pow_pos _)

theorem least : double.leastPlace = -1074 := by decide
theorem bin : double.binade = 2 ^ 52 := rfl
theorem sgn : double.signWeight = 2 ^ 63 := rfl
theorem infR : double.infRung = 2047 * 2 ^ 52 := by decide

theorem fw_lt (n : Nat) (h : n < 2 ^ 53) : fw n < 2 ^ 63 := by
  unfold fw
  split
  · decide
  · rename_i h0
    have hL := log2_le h
    have hs := (sig_bounds h0 h).2
    omega

theorem read_word (neg : Bool) (r : Nat) (h : r < 2 ^ 63) : double.read (if neg then 2 ^ 63 + r else r) =
    (if r < 2 ^ 52 then .number neg r (-1074) else if r < 2047 * 2 ^ 52 then .number neg (2 ^ 52 + r % 2 ^ 52) (-1074 + (r / 2 ^ 52 - 1 : Nat)) else if r = 2047 * 2 ^ 52 then .infinity neg else .nan neg (r - 2047 * 2 ^ 52)) := by
  unfold Format.read
  rw [least, bin, sgn, infR]
  have e : ((if neg then 2 ^ 63 + r else r) / 2 ^ 63 % 2 == 1) = neg := by
    cases neg
    · simp only [Bool.false_eq_true, if_false]; rw [Nat.div_eq_of_lt h]; rfl
    · simp only [if_true]; rw [show (2 ^ 63 + r) / 2 ^ 63 = 1 by omega]; rfl
  have e2 : (if neg then 2 ^ 63 + r else r) % 2 ^ 63 = r := by
    cases neg
    · simp only [Bool.false_eq_true, if_false]; exact Nat.mod_eq_of_lt h
    · simp only [if_true]; omega
  simp only [e, e2]

theorem kk_zero : kk 0 = 1074 := if_pos rfl
theorem fw_zero : fw 0 = 0 := if_pos rfl
theorem kk_pos {n : Nat} (h : n ≠ 0) : kk n = 52 - n.log2 := if_neg h
theorem fw_pos {n : Nat} (h : n ≠ 0) : fw n = (1022 + n.log2) * 2 ^ 52 + n * 2 ^ (52 - n.log2) := if_neg h
theorem read_fw (neg : Bool) (n : Nat) (h : n < 2 ^ 53) : double.read (if neg then 2 ^ 63 + fw n else fw n) = .number neg (n * 2 ^ kk n) (-(kk n : Int)) := by
  rw [read_word neg _ (fw_lt n h)]
  by_cases h0 : n = 0
  · subst h0; rw [fw_zero, Nat.zero_mul, if_pos (Nat.two_pow_pos _), kk_zero]; rfl
  · rw [fw_pos h0, kk_pos h0]
    have hL := log2_le h
    obtain ⟨s1, s2⟩ := sig_bounds h0 h
    generalize n * 2 ^ (52 - n.log2) = s at *
    generalize n.log2 = L at *
    have e1 : ((1022 + L) * 2 ^ 52 + s) % 2 ^ 52 = s - 2 ^ 52 := by omega
    have e2 : ((1022 + L) * 2 ^ 52 + s) / 2 ^ 52 = 1023 + L := by omega
    rw [if_neg (by omega), if_pos (by omega), e1, e2]
    have e3 : 2 ^ 52 + (s - 2 ^ 52) = s := by omega
    have e4 : (-1074 : Int) + ((1023 + L - 1 : Nat) : Int) = -((52 - L : Nat) : Int) := by omega
    rw [e3, e4]

theorem read_W (n : Int) (h : n.natAbs < 2 ^ 53) : double.read (W n) = .number (decide (n < 0)) (n.natAbs * 2 ^ kk n.natAbs) (-(kk n.natAbs : Int)) := by
  have e : W n = (if decide (n < 0) = true then 2 ^ 63 + fw n.natAbs else fw n.natAbs) := by
    unfold W
    by_cases hn : n < 0
    · rw [if_pos hn, if_pos (decide_eq_true hn)]
    · rw [if_neg hn, if_neg (by simpa using hn)]
  rw [e]; exact read_fw _ _ h

theorem log2_mul_pow {n : Nat} (h0 : n ≠ 0) (k : Nat) : (n * 2 ^ k).log2 = n.log2 + k := by
  have hne : n * 2 ^ k ≠ 0 := Nat.mul_ne_zero h0 (Nat.pos_iff_ne_zero.1 (Nat.two_pow_pos _))
  have h1 := Nat.log2_self_le h0
  have h2 := Nat.lt_log2_self (n := n)
  have a : n.log2 + k ≤ (n * 2 ^ k).log2 := by
    rw [Nat.le_log2 hne, Nat.pow_add]; exact Nat.mul_le_mul_right _ h1
  have b : (n * 2 ^ k).log2 < n.log2 + 1 + k := by
    rw [Nat.log2_lt hne, Nat.pow_add]; exact Nat.mul_lt_mul_of_pos_right h2 (Nat.two_pow_pos _)
  omega

theorem cut_zero (way : Toward) (neg : Bool) (n : Nat) : way.cut neg n 0 = n := by
  unfold Toward.cut
  simp only [Nat.zero_min, Nat.shiftLeft_zero, Nat.div_one, Nat.mod_one, Nat.mul_zero]
  cases way <;> simp

theorem cut_exact (way : Toward) (neg : Bool) (n d : Nat) : way.cut neg (n * 2 ^ d) d = n := by
  by_cases h0 : n = 0
  · subst h0
    unfold Toward.cut
    simp only [Nat.zero_mul, Nat.zero_div, Nat.zero_mod, Nat.mul_zero]
    have hg : (1 <<< min d (Nat.log2 0 + 2)) ≠ 0 := by rw [Nat.one_shiftLeft]; exact Nat.pos_iff_ne_zero.1 (Nat.two_pow_pos _)
    cases way <;> simp
  · unfold Toward.cut
    have hd : min d ((n * 2 ^ d).log2 + 2) = d := by rw [log2_mul_pow h0]; omega
    simp only [hd, Nat.one_shiftLeft]
    rw [Nat.mul_div_cancel _ (Nat.two_pow_pos d), Nat.mul_mod_left]
    have hg : (2 ^ d == 0) = false := by simp
    cases way <;> simp

theorem nearest_fw (neg : Bool) (n k : Nat) (h : n < 2 ^ 53) : double.nearest neg (n * 2 ^ k) (-(k : Int)) = if neg then 2 ^ 63 + fw n else fw n := by
  by_cases h0 : n = 0
  · subst h0; simp [Format.nearest, Format.word, fw, sgn]
  · have hne : n * 2 ^ k ≠ 0 := Nat.mul_ne_zero h0 (Nat.pos_iff_ne_zero.1 (Nat.two_pow_pos _))
    have hL := log2_le h
    obtain ⟨s1, s2⟩ := sig_bounds h0 h
    have key : Toward.even.cut neg ((n * 2 ^ k) <<< (-(k : Int) - ((n.log2 : Int) - 52)).toNat) (((n.log2 : Int) - 52) - -(k : Int)).toNat = n * 2 ^ (52 - n.log2) := by
      by_cases hk : k ≤ 52 - n.log2
      · have e1 : (-(k : Int) - ((n.log2 : Int) - 52)).toNat = 52 - n.log2 - k := by omega
        have e2 : (((n.log2 : Int) - 52) - -(k : Int)).toNat = 0 := by omega
        rw [e1, e2, cut_zero, Nat.shiftLeft_eq, Nat.mul_assoc, ← Nat.pow_add]
        congr 2; omega
      · have e1 : (-(k : Int) - ((n.log2 : Int) - 52)).toNat = 0 := by omega
        have e2 : (((n.log2 : Int) - 52) - -(k : Int)).toNat = n.log2 + k - 52 := by omega
        rw [e1, e2, Nat.shiftLeft_zero]
        have e3 : n * 2 ^ k = (n * 2 ^ (52 - n.log2)) * 2 ^ (n.log2 + k - 52) := by
          rw [Nat.mul_assoc, ← Nat.pow_add]; congr 2; omega
        rw [e3, cut_exact]
    unfold Format.nearest
    rw [if_neg hne]
    rw [log2_mul_pow h0, least, bin, infR]
    have elast : max (-(k : Int) + ((n.log2 + k : Nat) : Int) - ((double.fractionBits : Nat) : Int)) (-1074) = (n.log2 : Int) - 52 := by
      show max (-(k : Int) + ((n.log2 + k : Nat) : Int) - ((52 : Nat) : Int)) (-1074) = (n.log2 : Int) - 52
      omega
    simp only [elast, key]
    have e4 : (((n.log2 : Int) - 52) - -1074).toNat = 1022 + n.log2 := by omega
    rw [e4]
    unfold fw
    rw [if_neg h0, Nat.min_eq_left (by omega)]
    unfold Format.word
    rw [sgn]

theorem nearest_W (n : Int) (h : n.natAbs < 2 ^ 53) (k : Nat) : double.nearest (decide (n < 0)) (n.natAbs * 2 ^ k) (-(k : Int)) = W n := by
  rw [nearest_fw _ _ _ h]; unfold W
  by_cases hn : n < 0 <;> simp [hn]

theorem signed_eq (n : Int) (s : Bool) (hs : n ≠ 0 → s = decide (n < 0)) (k u : Nat) : signed s (n.natAbs * 2 ^ k) u = n * 2 ^ (k + u) := by
  unfold signed
  rw [Nat.shiftLeft_eq, Nat.mul_assoc, ← Nat.pow_add]
  by_cases h0 : n = 0
  · subst h0; simp
  · rw [hs h0]
    by_cases hn : n < 0
    · have e : ((n.natAbs : Nat) : Int) = -n := by omega
      simp only [hn, decide_true, if_true]
      rw [Int.natCast_mul, e, Int.natCast_pow]; simp [Int.neg_mul]
    · have e : ((n.natAbs : Nat) : Int) = n := by omega
      simp only [hn, decide_false, Bool.false_eq_true, if_false]
      rw [Int.natCast_mul, e, Int.natCast_pow]; rfl

theorem pow_pos_int (K : Nat) : (0 : Int) < 2 ^ K := Int.pow_pos (by decide)

theorem scaled_lt (n : Int) (K : Nat) : (n * 2 ^ K < 0) ↔ n < 0 := by
  constructor
  · intro h
    by_cases hn : n < 0
    · exact hn
    · have : 0 ≤ n * 2 ^ K := Int.mul_nonneg (by omega) (Int.le_of_lt (pow_pos_int K))
      omega
  · intro h; exact Int.mul_neg_of_neg_of_pos h (pow_pos_int K)

theorem scaled_zero (n : Int) (K : Nat) : (n * 2 ^ K = 0) ↔ n = 0 := by
  constructor
  · intro h
    rcases Int.mul_eq_zero.1 h with h | h
    · exact h
    · have := pow_pos_int K; omega
  · intro h; subst h; simp

theorem scaled_abs (n : Int) (K : Nat) : (n * 2 ^ K).natAbs = n.natAbs * 2 ^ K := by
  rw [Int.natAbs_mul, Int.natAbs_pow]; rfl

/-- The sum of two data that stand for whole numbers. -/
theorem sum_of (a b : Int) (s t : Bool) (k1 k2 : Nat) (hs : a ≠ 0 → s = decide (a < 0)) (ht : b ≠ 0 → t = decide (b < 0)) (hz : a + b = 0 → (s && t) = false) (h : (a + b).natAbs < 2 ^ 53) :
    ((Datum.number s (a.natAbs * 2 ^ k1) (-(k1 : Int))).sum (.number t (b.natAbs * 2 ^ k2) (-(k2 : Int)))).map double.write = some (W (a + b)) := by
  have hb : min (-(k1 : Int)) (-(k2 : Int)) = -((max k1 k2 : Nat) : Int) := by omega
  simp only [Datum.sum, hb]
  have e1 : (-(k1 : Int) - -((max k1 k2 : Nat) : Int)).toNat = max k1 k2 - k1 := by omega
  have e2 : (-(k2 : Int) - -((max k1 k2 : Nat) : Int)).toNat = max k1 k2 - k2 := by omega
  rw [e1, e2, signed_eq a s hs, signed_eq b t ht]
  rw [show k1 + (max k1 k2 - k1) = max k1 k2 by omega, show k2 + (max k1 k2 - k2) = max k1 k2 by omega, ← Int.add_mul]
  simp only [Option.map_some, Format.write, scaled_zero, scaled_lt, scaled_abs]
  congr 1
  rw [← nearest_W (a + b) h (max k1 k2)]
  congr 1
  by_cases h0 : a + b = 0
  · rw [if_pos h0, hz h0, h0]; rfl
  · rw [if_neg h0]

theorem add_W (a b : Int) (ha : a.natAbs < 2 ^ 53) (hb : b.natAbs < 2 ^ 53) (h : (a + b).natAbs < 2 ^ 53) : floatBits .add .f64 (W a) (W b) = some (W (a + b)) := by
  show double.add (W a) (W b) = _
  unfold Format.add
  rw [read_W a ha, read_W b hb]
  exact sum_of a b _ _ _ _ (fun _ => rfl) (fun _ => rfl) (fun h0 => by rw [Bool.and_eq_false_iff]; by_cases hn : a < 0 <;> simp <;> omega) h

theorem sub_W (a b : Int) (ha : a.natAbs < 2 ^ 53) (hb : b.natAbs < 2 ^ 53) (h : (a - b).natAbs < 2 ^ 53) : floatBits .sub .f64 (W a) (W b) = some (W (a - b)) := by
  show double.sub (W a) (W b) = _
  unfold Format.sub
  rw [read_W a ha, read_W b hb]
  simp only [Datum.opposite]
  have e : b.natAbs = (-b).natAbs := by omega
  rw [e, show a - b = a + -b by omega]
  exact sum_of a (-b) _ _ _ _ (fun _ => rfl) (fun hn => by by_cases hb : b < 0 <;> simp [hb] <;> omega) (fun h0 => by rw [Bool.and_eq_false_iff]; by_cases hn : a < 0 <;> simp <;> omega) (by omega)

theorem mul_W (a b : Int) (ha0 : 0 ≤ a) (hb0 : 0 ≤ b) (ha : a.natAbs < 2 ^ 53) (hb : b.natAbs < 2 ^ 53) (h : (a * b).natAbs < 2 ^ 53) : floatBits .mul .f64 (W a) (W b) = some (W (a * b)) := by
  show double.mul (W a) (W b) = _
  unfold Format.mul
  rw [read_W a ha, read_W b hb]
  have h1 : ¬ a < 0 := by omega
  have h2 : ¬ b < 0 := by omega
  have h3 : ¬ a * b < 0 := by have := Int.mul_nonneg ha0 hb0; omega
  simp only [Datum.product, h1, h2, decide_false, Option.map_some, Format.write]
  congr 1
  rw [← nearest_W (a * b) h (kk a.natAbs + kk b.natAbs)]
  simp only [h3, decide_false]
  congr 1
  · rw [Int.natAbs_mul, Nat.pow_add]
    rw [Nat.mul_assoc, Nat.mul_assoc, Nat.mul_left_comm (2 ^ kk a.natAbs)]
  · omega

theorem order_W (a b : Int) (ha : a.natAbs < 2 ^ 53) (hb : b.natAbs < 2 ^ 53) : FloatKind.f64.format.order (W a) (W b) = some (compare a b) := by
  show double.order (W a) (W b) = _
  unfold Format.order
  rw [read_W a ha, read_W b hb]
  generalize kk a.natAbs = k1
  generalize kk b.natAbs = k2
  have hb : min (-(k1 : Int)) (-(k2 : Int)) = -((max k1 k2 : Nat) : Int) := by omega
  simp only [Datum.order, hb]
  have e1 : (-(k1 : Int) - -((max k1 k2 : Nat) : Int)).toNat = max k1 k2 - k1 := by omega
  have e2 : (-(k2 : Int) - -((max k1 k2 : Nat) : Int)).toNat = max k1 k2 - k2 := by omega
  rw [e1, e2, signed_eq a _ (fun _ => rfl), signed_eq b _ (fun _ => rfl)]
  rw [show k1 + (max k1 k2 - k1) = max k1 k2 by omega, show k2 + (max k1 k2 - k2) = max k1 k2 by omega]
  congr 1
  generalize max k1 k2 = K
  have hp := pow_pos_int K
  rcases Int.lt_trichotomy a b with hlt | heq | hgt
  · rw [Int.compare_eq_lt.2 hlt, Int.compare_eq_lt.2 (Int.mul_lt_mul_of_pos_right hlt hp)]
  · subst heq; rw [Int.compare_eq_eq.2 rfl, Int.compare_eq_eq.2 rfl]
  · rw [Int.compare_eq_gt.2 hgt, Int.compare_eq_gt.2 (Int.mul_lt_mul_of_pos_right hgt hp)]

theorem ofInt_W (n : Int) (h : n.natAbs < 2 ^ 53) : floatOfInt .f64 n = W n := by
  show double.write (.number (n < 0) n.natAbs 0) = _
  have := nearest_W n h 0
  simpa [Format.write] using this

theorem toInt_W (n : Int) (h : n.natAbs < 2 ^ 53) : floatToIntVal .f64 (W n) .i64 = some n := by
  unfold floatToIntVal
  have e : (FloatKind.f64.decode (W n)).toInt .zero = some n := by
    show (double.read (W n)).toInt .zero = _
    rw [read_W n h]
    simp only [Datum.toInt, Datum.integral]
    have e1 : (-(kk n.natAbs : Int)).toNat = 0 := by omega
    have e2 : (- -(kk n.natAbs : Int)).toNat = kk n.natAbs := by omega
    rw [e1, e2, Nat.shiftLeft_zero, cut_exact]
    have := signed_eq n (decide (n < 0)) (fun _ => rfl) 0 0
    simpa using this
  rw [e]
  simp only
  rw [if_pos]
  constructor
  · show -9223372036854775808 ≤ n; omega
  · show n ≤ 9223372036854775807; omega

/-! the order of words below infinity's -/
def mg (r : Nat) : Nat := if r < 2 ^ 52 then r else 2 ^ 52 + r % 2 ^ 52
def ex (r : Nat) : Nat := if r < 2 ^ 52 then 0 else r / 2 ^ 52 - 1
theorem read_pos {r : Nat} (h : r < 2047 * 2 ^ 52) : double.read r = .number false (mg r) (-1074 + (ex r : Nat)) := by
  have := read_word false r (by omega)
  simp only [Bool.false_eq_true, if_false] at this
  rw [this]
  unfold mg ex
  by_cases h0 : r < 2 ^ 52
  · rw [if_pos h0, if_pos h0, if_pos h0]; rfl
  · rw [if_neg h0, if_neg h0, if_neg h0, if_pos h]
theorem split_r (r : Nat) : r = ex r * 2 ^ 52 + mg r ∧ mg r < 2 ^ 53 ∧ (ex r ≠ 0 → 2 ^ 52 ≤ mg r) := by
  unfold ex mg
  by_cases h0 : r < 2 ^ 52
  · rw [if_pos h0, if_pos h0]; omega
  · rw [if_neg h0, if_neg h0]; omega
theorem val_lt {r1 r2 : Nat} (h : r1 < r2) : mg r1 * 2 ^ ex r1 < mg r2 * 2 ^ ex r2 := by
  obtain ⟨a1, b1, c1⟩ := split_r r1
  obtain ⟨a2, b2, c2⟩ := split_r r2
  generalize mg r1 = m1 at *
  generalize mg r2 = m2 at *
  generalize ex r1 = e1 at *
  generalize ex r2 = e2 at *
  rcases Nat.lt_trichotomy e1 e2 with hlt | heq | hgt
  · have h1 : m1 * 2 ^ e1 < 2 ^ 53 * 2 ^ e1 := Nat.mul_lt_mul_of_pos_right b1 (Nat.two_pow_pos _)
    have h2 : 2 ^ 53 * 2 ^ e1 ≤ 2 ^ 52 * 2 ^ e2 := by
      rw [← Nat.pow_add, ← Nat.pow_add]; exact Nat.pow_le_pow_right (by decide) (by omega)
    have h3 : 2 ^ 52 * 2 ^ e2 ≤ m2 * 2 ^ e2 := Nat.mul_le_mul_right _ (c2 (by omega))
    omega
  · subst heq
    exact Nat.mul_lt_mul_of_pos_right (by omega) (Nat.two_pow_pos _)
  · have := c1 (by omega)
    omega
theorem order_pos {r1 r2 : Nat} (h1 : r1 < 2047 * 2 ^ 52) (h2 : r2 < 2047 * 2 ^ 52) : FloatKind.f64.format.order r1 r2 = some (compare r1 r2) := by
  show double.order r1 r2 = _
  unfold Format.order
  rw [read_pos h1, read_pos h2]
  have hv12 := @val_lt r1 r2
  have hv21 := @val_lt r2 r1
  have he : ∀ m : Nat, r1 = r2 → mg r1 * 2 ^ m = mg r2 * 2 ^ m := fun m h => by rw [h]
  have heq : r1 = r2 → ex r1 = ex r2 := fun h => by rw [h]
  generalize mg r1 = m1 at *
  generalize mg r2 = m2 at *
  generalize ex r1 = e1 at *
  generalize ex r2 = e2 at *
  have hb : min (-1074 + (e1 : Int)) (-1074 + (e2 : Int)) = -1074 + ((min e1 e2 : Nat) : Int) := by omega
  simp only [Datum.order, hb]
  have x1 : (-1074 + (e1 : Int) - (-1074 + ((min e1 e2 : Nat) : Int))).toNat = e1 - min e1 e2 := by omega
  have x2 : (-1074 + (e2 : Int) - (-1074 + ((min e1 e2 : Nat) : Int))).toNat = e2 - min e1 e2 := by omega
  rw [x1, x2]
  unfold signed
  simp only [Bool.false_eq_true, if_false, Nat.shiftLeft_eq]
  have p1 : 2 ^ e1 = 2 ^ (e1 - min e1 e2) * 2 ^ min e1 e2 := by rw [← Nat.pow_add]; congr 1; omega
  have p2 : 2 ^ e2 = 2 ^ (e2 - min e1 e2) * 2 ^ min e1 e2 := by rw [← Nat.pow_add]; congr 1; omega
  congr 1
  rcases Nat.lt_trichotomy r1 r2 with h | h | h
  · have := hv12 h
    rw [p1, p2, ← Nat.mul_assoc, ← Nat.mul_assoc] at this
    have := Nat.lt_of_mul_lt_mul_right this
    rw [Nat.compare_eq_lt.2 h, Int.compare_eq_lt.2 (by exact_mod_cast this)]
  · have g := heq h
    have := he (e1 - min e1 e2) h
    rw [Nat.compare_eq_eq.2 h, ← g]
    rw [show min e1 e1 = e1 from Nat.min_self _]
    rw [← g, show min e1 e1 = e1 from Nat.min_self _] at this
    rw [Int.compare_eq_eq.2 (by exact_mod_cast this)]
  · have := hv21 h
    rw [p1, p2, ← Nat.mul_assoc, ← Nat.mul_assoc] at this
    have := Nat.lt_of_mul_lt_mul_right this
    rw [Nat.compare_eq_gt.2 h, Int.compare_eq_gt.2 (by exact_mod_cast this)]

/-! bits -/
theorem andNot_sign (x : Nat) (h : x < 2 ^ 63) : bits .andNot .u64 (x : Int) 9223372036854775808 = (x : Int) := by
  rw [show (9223372036854775808 : Int) = ((9223372036854775808 : Nat) : Int) from rfl, u64_andNot_nat x _ (by omega) (by omega)]
  congr 1
  rw [show 18446744073709551615 - 9223372036854775808 = 2 ^ 63 - 1 from rfl, Nat.and_two_pow_sub_one_eq_mod]
  exact Nat.mod_eq_of_lt h
theorem andNot_exp (x : Nat) (h : x < 2 ^ 63) : bits .andNot .u64 (x : Int) 9218868437227405312 = ((x % 2 ^ 52 : Nat) : Int) := by
  rw [show (9218868437227405312 : Int) = ((9218868437227405312 : Nat) : Int) from rfl, u64_andNot_nat x _ (by omega) (by omega)]
  congr 1
  rw [show 18446744073709551615 - 9218868437227405312 = 2 ^ 63 ||| (2 ^ 52 - 1) from rfl, Nat.and_or_distrib_left, Nat.and_two_pow_sub_one_eq_mod]
  have h0 : x &&& 2 ^ 63 = 0 := by
    apply Nat.eq_of_testBit_eq
    intro i
    rw [Nat.testBit_and, Nat.testBit_two_pow, Nat.zero_testBit]
    by_cases e : 63 = i
    · subst e; rw [Nat.testBit_lt_two_pow h]; rfl
    · simp [e]
  rw [h0, Nat.zero_or]
theorem and_2047 (x : Nat) (h : x < 2048) : bits .and .u64 (x : Int) 2047 = (x : Int) := by
  rw [show (2047 : Int) = ((2047 : Nat) : Int) from rfl, u64_and_nat x _ (by omega) (by omega)]
  congr 1
  rw [show 2047 = 2 ^ 11 - 1 from rfl, Nat.and_two_pow_sub_one_eq_mod]
  exact Nat.mod_eq_of_lt h
theorem or_exp (e f : Nat) (hf : f < 2 ^ 52) (he : e < 2048) : bits .or .u64 (f : Int) ((e * 2 ^ 52 : Nat) : Int) = ((e * 2 ^ 52 + f : Nat) : Int) := by
  rw [u64_or_nat f _ (by omega) (by omega)]
  congr 1
  rw [Nat.or_comm]
  exact nat_join 52 _ _ (Nat.mul_mod_left _ _) hf
theorem ofInt_i64 (a : Nat) (ha : a < 9223372036854775808) : (BitVec.ofInt 64 (a : Int)).toNat = a := by
  rw [BitVec.ofInt_natCast, BitVec.toNat_ofNat]; exact Nat.mod_eq_of_lt (by omega)
theorem iand_2047 (x : Nat) (h : x < 2048) : bits .and .i64 (x : Int) 2047 = (x : Int) := by
  have hx : x &&& 2047 = x := by rw [show 2047 = 2 ^ 11 - 1 from rfl, Nat.and_two_pow_sub_one_eq_mod]; exact Nat.mod_eq_of_lt h
  show IntKind.i64.wrap ((BitVec.ofInt 64 (x : Int) &&& BitVec.ofInt 64 ((2047 : Nat) : Int)).toNat : Int) = _
  rw [BitVec.toNat_and, ofInt_i64 x (by omega), ofInt_i64 2047 (by omega), hx, IntKind.wrap_i64]
  omega
/-- the sign turned -/
theorem fw_split {n : Nat} (h0 : n ≠ 0) (h : n < 2 ^ 53) : fw n = (1023 + n.log2) * 2 ^ 52 + (n * 2 ^ (52 - n.log2) - 2 ^ 52) ∧ n * 2 ^ (52 - n.log2) - 2 ^ 52 < 2 ^ 52 := by
  obtain ⟨s1, s2⟩ := sig_bounds h0 h
  rw [fw_pos h0]; omega
theorem fw_lt_inf {n : Nat} (h : n < 2 ^ 53) : fw n < 2047 * 2 ^ 52 := by
  by_cases h0 : n = 0
  · subst h0; rw [fw_zero]; decide
  · have hL := log2_le h
    obtain ⟨s1, s2⟩ := sig_bounds h0 h
    rw [fw_pos h0]; omega
theorem W_nat (n : Nat) : W (n : Int) = fw n := by
  unfold W; rw [if_neg (by omega)]; rfl
theorem W_neg {n : Int} (h : n < 0) : W n = 2 ^ 63 + fw n.natAbs := if_pos h
theorem fw_10007 : fw 10007 = 4666727020758040576 := by decide +kernel
theorem W_10007 : W 10007 = 4666727020758040576 := fw_10007
theorem W_zero : W 0 = 0 := rfl
theorem W_one : W 1 = 4607182418800017408 := by decide +kernel
end Go.Proofs.Ytokkkeepifpbpaa.Flt
