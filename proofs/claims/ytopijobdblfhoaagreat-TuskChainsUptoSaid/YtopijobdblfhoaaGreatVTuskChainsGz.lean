import Derived.Laws.FloatArith
import Derived.Laws.BitsAllLaws
import Derived.Laws.BitsLemmas
import Derived.IntWalk
import Derived.Test.YtopijobdblfhoaaGreatProg
import Derived.WalkKit
import Derived.WalkLawsBesides
import Derived.KernelRfl
import Derived.Laws.Externs
import Derived.Lib.Hide
import Derived.Deep.RegionWith
import Derived.Outline
import Derived.Below
import Derived.Laws.ComplexArith
import Derived.Deep.RegionHeld3
import Derived.ScopeJumps
import Derived.WalkMore
/- Trimmed by a program. By an AI agent. -/
section
namespace Go.Proofs.YtopijobdblfhoaaGreat.Flt
open Ieee

def fw (n : Nat) : Nat := if n = 0 then 0 else (1022 + n.log2) * 2 ^ 52 + n * 2 ^ (52 - n.log2)
def kk (n : Nat) : Nat := if n = 0 then 1074 else 52 - n.log2
def W (n : Int) : Nat := if n < 0 then 2 ^ 63 + fw n.natAbs else fw n.natAbs

theorem Qc7 {n : Nat} (h : n < 2 ^ 53) : n.log2 ≤ 52 := by
 by_cases h0 : n = 0
 ·
  subst h0; decide
 ·
  have := (Nat.log2_lt h0).2 h; omega

theorem Qbu {n : Nat} (h0 : n ≠ 0) (h : n < 2 ^ 53) : 2 ^ 52 ≤ n * 2 ^ (52 - n.log2) ∧ n * 2 ^ (52 - n.log2) < 2 ^ 53 := by
 have hL := Qc7 h; have h1 := Nat.log2_self_le h0; have h2 := Nat.lt_log2_self (n := n); have e1 : (2:Nat) ^ 52 = 2 ^ n.log2 * 2 ^ (52 - n.log2) := by rw [← Nat.pow_add]; congr 1; omega
 have e2 : (2:Nat) ^ 53 = 2 ^ (n.log2 + 1) * 2 ^ (52 - n.log2) := by rw [← Nat.pow_add]; congr 1; omega
 constructor
 ·
  rw [e1]; exact Nat.mul_le_mul_right _ h1
 ·
  rw [e2]; exact Nat.mul_lt_mul_of_pos_right h2 (Nat.two_pow_pos _)

theorem least : double.leastPlace = -1074 := by decide
theorem bin : double.binade = 2 ^ 52 := rfl
theorem sgn : double.signWeight = 2 ^ 63 := rfl
theorem infR : double.infRung = 2047 * 2 ^ 52 := by decide

theorem fw_lt (n : Nat) (h : n < 2 ^ 53) : fw n < 2 ^ 63 := by
 unfold fw; split
 ·
  decide
 ·
  rename_i h0
  have hL := Qc7 h; have hs := (Qbu h0 h).2; omega

theorem Qh7 (neg : Bool) (r : Nat) (h : r < 2 ^ 63) : double.read (if neg then 2 ^ 63 + r else r) =
  (if r < 2 ^ 52 then .number neg r (-1074) else if r < 2047 * 2 ^ 52 then .number neg (2 ^ 52 + r % 2 ^ 52) (-1074 + (r / 2 ^ 52 - 1 : Nat)) else if r = 2047 * 2 ^ 52 then .infinity neg else .nan neg (r - 2047 * 2 ^ 52)) := by
 unfold Format.read; rw [least, bin, sgn, infR]
 have e : ((if neg then 2 ^ 63 + r else r) / 2 ^ 63 % 2 == 1) = neg := by
  cases neg
  ·
   simp only [Bool.false_eq_true, if_false]; rw [Nat.div_eq_of_lt h]; rfl
  ·
   simp only [if_true]; rw [show (2 ^ 63 + r) / 2 ^ 63 = 1 by omega]; rfl
 have e2 : (if neg then 2 ^ 63 + r else r) % 2 ^ 63 = r := by
  cases neg
  ·
   simp only [Bool.false_eq_true, if_false]; exact Nat.mod_eq_of_lt h
  ·
   simp only [if_true]; omega
 simp only [e, e2]

theorem kk_zero : kk 0 = 1074 := if_pos rfl
theorem Qnk : fw 0 = 0 := if_pos rfl
theorem kk_pos {n : Nat} (h : n ≠ 0) : kk n = 52 - n.log2 := if_neg h
theorem Qjv {n : Nat} (h : n ≠ 0) : fw n = (1022 + n.log2) * 2 ^ 52 + n * 2 ^ (52 - n.log2) := if_neg h
theorem Qik (neg : Bool) (n : Nat) (h : n < 2 ^ 53) : double.read (if neg then 2 ^ 63 + fw n else fw n) = .number neg (n * 2 ^ kk n) (-(kk n : Int)) := by
 rw [Qh7 neg _ (fw_lt n h)]
 by_cases h0 : n = 0
 ·
  subst h0; rw [Qnk, Nat.zero_mul, if_pos (Nat.two_pow_pos _), kk_zero]; rfl
 ·
  rw [Qjv h0, kk_pos h0]; have hL := Qc7 h; obtain ⟨s1, s2⟩ := Qbu h0 h; generalize n * 2 ^ (52 - n.log2) = s at *
  generalize n.log2 = L at *
  have e1 : ((1022 + L) * 2 ^ 52 + s) % 2 ^ 52 = s - 2 ^ 52 := by omega
  have e2 : ((1022 + L) * 2 ^ 52 + s) / 2 ^ 52 = 1023 + L := by omega
  rw [if_neg (by omega), if_pos (by omega), e1, e2]; have e3 : 2 ^ 52 + (s - 2 ^ 52) = s := by omega
  have e4 : (-1074 : Int) + ((1023 + L - 1 : Nat) : Int) = -((52 - L : Nat) : Int) := by omega
  rw [e3, e4]

theorem Qc3 (n : Int) (h : n.natAbs < 2 ^ 53) : double.read (W n) = .number (decide (n < 0)) (n.natAbs * 2 ^ kk n.natAbs) (-(kk n.natAbs : Int)) := by
 have e : W n = (if decide (n < 0) = true then 2 ^ 63 + fw n.natAbs else fw n.natAbs) := by
  unfold W
  by_cases hn : n < 0
  ·
   rw [if_pos hn, if_pos (decide_eq_true hn)]
  ·
   rw [if_neg hn, if_neg (by simpa using hn)]
 rw [e]; exact Qik _ _ h

theorem Qct {n : Nat} (h0 : n ≠ 0) (k : Nat) : (n * 2 ^ k).log2 = n.log2 + k := by
 have hne : n * 2 ^ k ≠ 0 := Nat.mul_ne_zero h0 (Nat.pos_iff_ne_zero.1 (Nat.two_pow_pos _)); have h1 := Nat.log2_self_le h0; have h2 := Nat.lt_log2_self (n := n)
 have a : n.log2 + k ≤ (n * 2 ^ k).log2 := by
  rw [Nat.le_log2 hne, Nat.pow_add]; exact Nat.mul_le_mul_right _ h1
 have b : (n * 2 ^ k).log2 < n.log2 + 1 + k := by
  rw [Nat.log2_lt hne, Nat.pow_add]; exact Nat.mul_lt_mul_of_pos_right h2 (Nat.two_pow_pos _)
 omega

theorem Qnt (way : Toward) (neg : Bool) (n : Nat) : way.cut neg n 0 = n := by
 unfold Toward.cut; simp only [Nat.zero_min, Nat.shiftLeft_zero, Nat.div_one, Nat.mod_one, Nat.mul_zero]; cases way <;> simp

theorem Qhn (way : Toward) (neg : Bool) (n d : Nat) : way.cut neg (n * 2 ^ d) d = n := by
 by_cases h0 : n = 0
 ·
  subst h0; unfold Toward.cut; simp only [Nat.zero_mul, Nat.zero_div, Nat.zero_mod, Nat.mul_zero]; have hg : (1 <<< min d (Nat.log2 0 + 2)) ≠ 0 := by rw [Nat.one_shiftLeft]; exact Nat.pos_iff_ne_zero.1 (Nat.two_pow_pos _)
  cases way <;> simp
 ·
  unfold Toward.cut; have hd : min d ((n * 2 ^ d).log2 + 2) = d := by rw [Qct h0]; omega
  simp only [hd, Nat.one_shiftLeft]; rw [Nat.mul_div_cancel _ (Nat.two_pow_pos d), Nat.mul_mod_left]; have hg : (2 ^ d == 0) = false := by simp
  cases way <;> simp

theorem Qlq (neg : Bool) (n k : Nat) (h : n < 2 ^ 53) : double.nearest neg (n * 2 ^ k) (-(k : Int)) = if neg then 2 ^ 63 + fw n else fw n := by
 by_cases h0 : n = 0
 ·
  subst h0; simp [Format.nearest, Format.word, fw, sgn]
 ·
  have hne : n * 2 ^ k ≠ 0 := Nat.mul_ne_zero h0 (Nat.pos_iff_ne_zero.1 (Nat.two_pow_pos _)); have hL := Qc7 h; obtain ⟨s1, s2⟩ := Qbu h0 h
  have key : Toward.even.cut neg ((n * 2 ^ k) <<< (-(k : Int) - ((n.log2 : Int) - 52)).toNat) (((n.log2 : Int) - 52) - -(k : Int)).toNat = n * 2 ^ (52 - n.log2) := by
   by_cases hk : k ≤ 52 - n.log2
   ·
    have e1 : (-(k : Int) - ((n.log2 : Int) - 52)).toNat = 52 - n.log2 - k := by omega
    have e2 : (((n.log2 : Int) - 52) - -(k : Int)).toNat = 0 := by omega
    rw [e1, e2, Qnt, Nat.shiftLeft_eq, Nat.mul_assoc, ← Nat.pow_add]; congr 2; omega
   ·
    have e1 : (-(k : Int) - ((n.log2 : Int) - 52)).toNat = 0 := by omega
    have e2 : (((n.log2 : Int) - 52) - -(k : Int)).toNat = n.log2 + k - 52 := by omega
    rw [e1, e2, Nat.shiftLeft_zero]
    have e3 : n * 2 ^ k = (n * 2 ^ (52 - n.log2)) * 2 ^ (n.log2 + k - 52) := by
     rw [Nat.mul_assoc, ← Nat.pow_add]; congr 2; omega
    rw [e3, Qhn]
  unfold Format.nearest; rw [if_neg hne]; rw [Qct h0, least, bin, infR]
  have elast : max (-(k : Int) + ((n.log2 + k : Nat) : Int) - ((double.fractionBits : Nat) : Int)) (-1074) = (n.log2 : Int) - 52 := by
   show max (-(k : Int) + ((n.log2 + k : Nat) : Int) - ((52 : Nat) : Int)) (-1074) = (n.log2 : Int) - 52; omega
  simp only [elast, key]; have e4 : (((n.log2 : Int) - 52) - -1074).toNat = 1022 + n.log2 := by omega
  rw [e4]; unfold fw; rw [if_neg h0, Nat.min_eq_left (by omega)]; unfold Format.word; rw [sgn]

theorem Qff (n : Int) (h : n.natAbs < 2 ^ 53) (k : Nat) : double.nearest (decide (n < 0)) (n.natAbs * 2 ^ k) (-(k : Int)) = W n := by
 rw [Qlq _ _ _ h]; unfold W
 by_cases hn : n < 0 <;> simp [hn]

theorem Qcs (n : Int) (s : Bool) (hs : n ≠ 0 → s = decide (n < 0)) (k u : Nat) : signed s (n.natAbs * 2 ^ k) u = n * 2 ^ (k + u) := by
 unfold signed; rw [Nat.shiftLeft_eq, Nat.mul_assoc, ← Nat.pow_add]
 by_cases h0 : n = 0
 ·
  subst h0; simp
 ·
  rw [hs h0]
  by_cases hn : n < 0
  ·
   have e : ((n.natAbs : Nat) : Int) = -n := by omega
   simp only [hn, decide_true, if_true]; rw [Int.natCast_mul, e, Int.natCast_pow]; simp [Int.neg_mul]
  ·
   have e : ((n.natAbs : Nat) : Int) = n := by omega
   simp only [hn, decide_false, Bool.false_eq_true, if_false]; rw [Int.natCast_mul, e, Int.natCast_pow]; rfl

theorem Qck (K : Nat) : (0 : Int) < 2 ^ K := Int.pow_pos (by decide)

theorem Qnb (n : Int) (K : Nat) : (n * 2 ^ K < 0) ↔ n < 0 := by
 constructor
 ·
  intro h
  by_cases hn : n < 0
  ·
   exact hn
  ·
   have : 0 ≤ n * 2 ^ K := Int.mul_nonneg (by omega) (Int.le_of_lt (Qck K)); omega
 ·
  intro h; exact Int.mul_neg_of_neg_of_pos h (Qck K)

theorem Qjb (n : Int) (K : Nat) : (n * 2 ^ K = 0) ↔ n = 0 := by
 constructor
 ·
  intro h
  rcases Int.mul_eq_zero.1 h with h | h
  ·
   exact h
  ·
   have := Qck K; omega
 ·
  intro h; subst h; simp

theorem Qll (n : Int) (K : Nat) : (n * 2 ^ K).natAbs = n.natAbs * 2 ^ K := by
 rw [Int.natAbs_mul, Int.natAbs_pow]; rfl

theorem Qlw (a b : Int) (s t : Bool) (k1 k2 : Nat) (hs : a ≠ 0 → s = decide (a < 0)) (ht : b ≠ 0 → t = decide (b < 0)) (hz : a + b = 0 → (s && t) = false) (h : (a + b).natAbs < 2 ^ 53) :
  ((Datum.number s (a.natAbs * 2 ^ k1) (-(k1 : Int))).sum (.number t (b.natAbs * 2 ^ k2) (-(k2 : Int)))).map double.write = some (W (a + b)) := by
 have hb : min (-(k1 : Int)) (-(k2 : Int)) = -((max k1 k2 : Nat) : Int) := by omega
 simp only [Datum.sum, hb]; have e1 : (-(k1 : Int) - -((max k1 k2 : Nat) : Int)).toNat = max k1 k2 - k1 := by omega
 have e2 : (-(k2 : Int) - -((max k1 k2 : Nat) : Int)).toNat = max k1 k2 - k2 := by omega
 rw [e1, e2, Qcs a s hs, Qcs b t ht]; rw [show k1 + (max k1 k2 - k1) = max k1 k2 by omega, show k2 + (max k1 k2 - k2) = max k1 k2 by omega, ← Int.add_mul]; simp only [Option.map_some, Format.write, Qjb, Qnb, Qll]; congr 1; rw [← Qff (a + b) h (max k1 k2)]; congr 1
 by_cases h0 : a + b = 0
 ·
  rw [if_pos h0, hz h0, h0]; rfl
 ·
  rw [if_neg h0]

theorem Qpg (a b : Int) (ha : a.natAbs < 2 ^ 53) (hb : b.natAbs < 2 ^ 53) (h : (a + b).natAbs < 2 ^ 53) : floatBits .add .f64 (W a) (W b) = some (W (a + b)) := by
 show double.add (W a) (W b) = _; unfold Format.add; rw [Qc3 a ha, Qc3 b hb]; exact Qlw a b _ _ _ _ (fun _ => rfl) (fun _ => rfl) (fun h0 => by rw [Bool.and_eq_false_iff]; by_cases hn : a < 0 <;> simp <;> omega) h

theorem Qpc (a b : Int) (ha : a.natAbs < 2 ^ 53) (hb : b.natAbs < 2 ^ 53) (h : (a - b).natAbs < 2 ^ 53) : floatBits .sub .f64 (W a) (W b) = some (W (a - b)) := by
 show double.sub (W a) (W b) = _; unfold Format.sub; rw [Qc3 a ha, Qc3 b hb]; simp only [Datum.opposite]; have e : b.natAbs = (-b).natAbs := by omega
 rw [e, show a - b = a + -b by omega]; exact Qlw a (-b) _ _ _ _ (fun _ => rfl) (fun hn => by by_cases hb : b < 0 <;> simp [hb] <;> omega) (fun h0 => by rw [Bool.and_eq_false_iff]; by_cases hn : a < 0 <;> simp <;> omega) (by omega)

theorem Qmx (a b : Int) (ha0 : 0 ≤ a) (hb0 : 0 ≤ b) (ha : a.natAbs < 2 ^ 53) (hb : b.natAbs < 2 ^ 53) (h : (a * b).natAbs < 2 ^ 53) : floatBits .mul .f64 (W a) (W b) = some (W (a * b)) := by
 show double.mul (W a) (W b) = _; unfold Format.mul; rw [Qc3 a ha, Qc3 b hb]; have h1 : ¬ a < 0 := by omega
 have h2 : ¬ b < 0 := by omega
 have h3 : ¬ a * b < 0 := by have := Int.mul_nonneg ha0 hb0; omega
 simp only [Datum.product, h1, h2, decide_false, Option.map_some, Format.write]; congr 1; rw [← Qff (a * b) h (kk a.natAbs + kk b.natAbs)]; simp only [h3, decide_false]; congr 1
 ·
  rw [Int.natAbs_mul, Nat.pow_add]; rw [Nat.mul_assoc, Nat.mul_assoc, Nat.mul_left_comm (2 ^ kk a.natAbs)]
 ·
  omega

theorem Qdz (a b : Int) (ha : a.natAbs < 2 ^ 53) (hb : b.natAbs < 2 ^ 53) : FloatKind.f64.format.order (W a) (W b) = some (compare a b) := by
 show double.order (W a) (W b) = _; unfold Format.order; rw [Qc3 a ha, Qc3 b hb]; generalize kk a.natAbs = k1; generalize kk b.natAbs = k2; have hb : min (-(k1 : Int)) (-(k2 : Int)) = -((max k1 k2 : Nat) : Int) := by omega
 simp only [Datum.order, hb]; have e1 : (-(k1 : Int) - -((max k1 k2 : Nat) : Int)).toNat = max k1 k2 - k1 := by omega
 have e2 : (-(k2 : Int) - -((max k1 k2 : Nat) : Int)).toNat = max k1 k2 - k2 := by omega
 rw [e1, e2, Qcs a _ (fun _ => rfl), Qcs b _ (fun _ => rfl)]; rw [show k1 + (max k1 k2 - k1) = max k1 k2 by omega, show k2 + (max k1 k2 - k2) = max k1 k2 by omega]; congr 1; generalize max k1 k2 = K; have hp := Qck K
 rcases Int.lt_trichotomy a b with hlt | heq | hgt
 ·
  rw [Int.compare_eq_lt.2 hlt, Int.compare_eq_lt.2 (Int.mul_lt_mul_of_pos_right hlt hp)]
 ·
  subst heq; rw [Int.compare_eq_eq.2 rfl, Int.compare_eq_eq.2 rfl]
 ·
  rw [Int.compare_eq_gt.2 hgt, Int.compare_eq_gt.2 (Int.mul_lt_mul_of_pos_right hgt hp)]

theorem Qmc (n : Int) (h : n.natAbs < 2 ^ 53) : floatOfInt .f64 n = W n := by
 show double.write (.number (n < 0) n.natAbs 0) = _; have := Qff n h 0
 simpa [Format.write] using this

theorem toInt_W (n : Int) (h : n.natAbs < 2 ^ 53) : floatToIntVal .f64 (W n) .i64 = some n := by
 unfold floatToIntVal
 have e : (FloatKind.f64.decode (W n)).toInt .zero = some n := by
  show (double.read (W n)).toInt .zero = _; rw [Qc3 n h]; simp only [Datum.toInt, Datum.integral]; have e1 : (-(kk n.natAbs : Int)).toNat = 0 := by omega
  have e2 : (- -(kk n.natAbs : Int)).toNat = kk n.natAbs := by omega
  rw [e1, e2, Nat.shiftLeft_zero, Qhn]; have := Qcs n (decide (n < 0)) (fun _ => rfl) 0 0
  simpa using this
 rw [e]; simp only; rw [if_pos]; constructor
 ·
  show -9223372036854775808 ≤ n; omega
 ·
  show n ≤ 9223372036854775807; omega

def mg (r : Nat) : Nat := if r < 2 ^ 52 then r else 2 ^ 52 + r % 2 ^ 52
def ex (r : Nat) : Nat := if r < 2 ^ 52 then 0 else r / 2 ^ 52 - 1
theorem Qj9 {r : Nat} (h : r < 2047 * 2 ^ 52) : double.read r = .number false (mg r) (-1074 + (ex r : Nat)) := by
 have := Qh7 false r (by omega); simp only [Bool.false_eq_true, if_false] at this; rw [this]; unfold mg ex
 by_cases h0 : r < 2 ^ 52
 ·
  rw [if_pos h0, if_pos h0, if_pos h0]; rfl
 ·
  rw [if_neg h0, if_neg h0, if_neg h0, if_pos h]
theorem Ql8 (r : Nat) : r = ex r * 2 ^ 52 + mg r ∧ mg r < 2 ^ 53 ∧ (ex r ≠ 0 → 2 ^ 52 ≤ mg r) := by
 unfold ex mg
 by_cases h0 : r < 2 ^ 52
 ·
  rw [if_pos h0, if_pos h0]; omega
 ·
  rw [if_neg h0, if_neg h0]; omega
theorem Qqc {r1 r2 : Nat} (h : r1 < r2) : mg r1 * 2 ^ ex r1 < mg r2 * 2 ^ ex r2 := by
 obtain ⟨a1, b1, c1⟩ := Ql8 r1; obtain ⟨a2, b2, c2⟩ := Ql8 r2; generalize mg r1 = m1 at *
 generalize mg r2 = m2 at *
 generalize ex r1 = e1 at *
 generalize ex r2 = e2 at *
 rcases Nat.lt_trichotomy e1 e2 with hlt | heq | hgt
 ·
  have h1 : m1 * 2 ^ e1 < 2 ^ 53 * 2 ^ e1 := Nat.mul_lt_mul_of_pos_right b1 (Nat.two_pow_pos _)
  have h2 : 2 ^ 53 * 2 ^ e1 ≤ 2 ^ 52 * 2 ^ e2 := by
   rw [← Nat.pow_add, ← Nat.pow_add]; exact Nat.pow_le_pow_right (by decide) (by omega)
  have h3 : 2 ^ 52 * 2 ^ e2 ≤ m2 * 2 ^ e2 := Nat.mul_le_mul_right _ (c2 (by omega)); omega
 ·
  subst heq; exact Nat.mul_lt_mul_of_pos_right (by omega) (Nat.two_pow_pos _)
 ·
  have := c1 (by omega); omega
theorem Qbo {r1 r2 : Nat} (h1 : r1 < 2047 * 2 ^ 52) (h2 : r2 < 2047 * 2 ^ 52) : FloatKind.f64.format.order r1 r2 = some (compare r1 r2) := by
 show double.order r1 r2 = _; unfold Format.order; rw [Qj9 h1, Qj9 h2]; have hv12 := @Qqc r1 r2; have hv21 := @Qqc r2 r1
 have he : ∀ m : Nat, r1 = r2 → mg r1 * 2 ^ m = mg r2 * 2 ^ m := fun m h => by rw [h]
 have heq : r1 = r2 → ex r1 = ex r2 := fun h => by rw [h]
 generalize mg r1 = m1 at *
 generalize mg r2 = m2 at *
 generalize ex r1 = e1 at *
 generalize ex r2 = e2 at *
 have hb : min (-1074 + (e1 : Int)) (-1074 + (e2 : Int)) = -1074 + ((min e1 e2 : Nat) : Int) := by omega
 simp only [Datum.order, hb]; have x1 : (-1074 + (e1 : Int) - (-1074 + ((min e1 e2 : Nat) : Int))).toNat = e1 - min e1 e2 := by omega
 have x2 : (-1074 + (e2 : Int) - (-1074 + ((min e1 e2 : Nat) : Int))).toNat = e2 - min e1 e2 := by omega
 rw [x1, x2]; unfold signed; simp only [Bool.false_eq_true, if_false, Nat.shiftLeft_eq]; have p1 : 2 ^ e1 = 2 ^ (e1 - min e1 e2) * 2 ^ min e1 e2 := by rw [← Nat.pow_add]; congr 1; omega
 have p2 : 2 ^ e2 = 2 ^ (e2 - min e1 e2) * 2 ^ min e1 e2 := by rw [← Nat.pow_add]; congr 1; omega
 congr 1
 rcases Nat.lt_trichotomy r1 r2 with h | h | h
 ·
  have := hv12 h; rw [p1, p2, ← Nat.mul_assoc, ← Nat.mul_assoc] at this; have := Nat.lt_of_mul_lt_mul_right this; rw [Nat.compare_eq_lt.2 h, Int.compare_eq_lt.2 (by exact_mod_cast this)]
 ·
  have g := heq h; have := he (e1 - min e1 e2) h; rw [Nat.compare_eq_eq.2 h, ← g]; rw [show min e1 e1 = e1 from Nat.min_self _]; rw [← g, show min e1 e1 = e1 from Nat.min_self _] at this; rw [Int.compare_eq_eq.2 (by exact_mod_cast this)]
 ·
  have := hv21 h; rw [p1, p2, ← Nat.mul_assoc, ← Nat.mul_assoc] at this; have := Nat.lt_of_mul_lt_mul_right this; rw [Nat.compare_eq_gt.2 h, Int.compare_eq_gt.2 (by exact_mod_cast this)]

theorem Qjk (x : Nat) (h : x < 2 ^ 63) : bits .andNot .u64 (x : Int) 9223372036854775808 = (x : Int) := by
 rw [show (9223372036854775808 : Int) = ((9223372036854775808 : Nat) : Int) from rfl, u64_andNot_nat x _ (by omega) (by omega)]; congr 1; rw [show 18446744073709551615 - 9223372036854775808 = 2 ^ 63 - 1 from rfl, Nat.and_two_pow_sub_one_eq_mod]; exact Nat.mod_eq_of_lt h
theorem Qf0 (x : Nat) (h : x < 2 ^ 63) : bits .andNot .u64 (x : Int) 9218868437227405312 = ((x % 2 ^ 52 : Nat) : Int) := by
 rw [show (9218868437227405312 : Int) = ((9218868437227405312 : Nat) : Int) from rfl, u64_andNot_nat x _ (by omega) (by omega)]; congr 1; rw [show 18446744073709551615 - 9218868437227405312 = 2 ^ 63 ||| (2 ^ 52 - 1) from rfl, Nat.and_or_distrib_left, Nat.and_two_pow_sub_one_eq_mod]
 have h0 : x &&& 2 ^ 63 = 0 := by
  apply Nat.eq_of_testBit_eq; intro i; rw [Nat.testBit_and, Nat.testBit_two_pow, Nat.zero_testBit]
  by_cases e : 63 = i
  ·
   subst e; rw [Nat.testBit_lt_two_pow h]; rfl
  ·
   simp [e]
 rw [h0, Nat.zero_or]
theorem Qoe (x : Nat) (h : x < 2048) : bits .and .u64 (x : Int) 2047 = (x : Int) := by
 rw [show (2047 : Int) = ((2047 : Nat) : Int) from rfl, u64_and_nat x _ (by omega) (by omega)]; congr 1; rw [show 2047 = 2 ^ 11 - 1 from rfl, Nat.and_two_pow_sub_one_eq_mod]; exact Nat.mod_eq_of_lt h
theorem Qp2 (e f : Nat) (hf : f < 2 ^ 52) (he : e < 2048) : bits .or .u64 (f : Int) ((e * 2 ^ 52 : Nat) : Int) = ((e * 2 ^ 52 + f : Nat) : Int) := by
 rw [u64_or_nat f _ (by omega) (by omega)]; congr 1; rw [Nat.or_comm]; exact nat_join 52 _ _ (Nat.mul_mod_left _ _) hf
theorem Qh4 (a : Nat) (ha : a < 9223372036854775808) : (BitVec.ofInt 64 (a : Int)).toNat = a := by
 rw [BitVec.ofInt_natCast, BitVec.toNat_ofNat]; exact Nat.mod_eq_of_lt (by omega)
theorem Qmo (x : Nat) (h : x < 2048) : bits .and .i64 (x : Int) 2047 = (x : Int) := by
 have hx : x &&& 2047 = x := by rw [show 2047 = 2 ^ 11 - 1 from rfl, Nat.and_two_pow_sub_one_eq_mod]; exact Nat.mod_eq_of_lt h
 show IntKind.i64.wrap ((BitVec.ofInt 64 (x : Int) &&& BitVec.ofInt 64 ((2047 : Nat) : Int)).toNat : Int) = _; rw [BitVec.toNat_and, Qh4 x (by omega), Qh4 2047 (by omega), hx, IntKind.wrap_i64]; omega
theorem Qom {n : Nat} (h0 : n ≠ 0) (h : n < 2 ^ 53) : fw n = (1023 + n.log2) * 2 ^ 52 + (n * 2 ^ (52 - n.log2) - 2 ^ 52) ∧ n * 2 ^ (52 - n.log2) - 2 ^ 52 < 2 ^ 52 := by
 obtain ⟨s1, s2⟩ := Qbu h0 h; rw [Qjv h0]; omega
theorem Qb0 {n : Nat} (h : n < 2 ^ 53) : fw n < 2047 * 2 ^ 52 := by
 by_cases h0 : n = 0
 ·
  subst h0; rw [Qnk]; decide
 ·
  have hL := Qc7 h; obtain ⟨s1, s2⟩ := Qbu h0 h; rw [Qjv h0]; omega
theorem Qcv (n : Nat) : W (n : Int) = fw n := by
 unfold W; rw [if_neg (by omega)]; rfl
theorem W_neg {n : Int} (h : n < 0) : W n = 2 ^ 63 + fw n.natAbs := if_pos h
theorem Qjr : fw 10007 = 4666727020758040576 := by decide +kernel
theorem Qg0 : W 10007 = 4666727020758040576 := Qjr
theorem Qqk : W 0 = 0 := rfl
theorem W_one : W 1 = 4607182418800017408 := by decide +kernel
end Go.Proofs.YtopijobdblfhoaaGreat.Flt
end
section
namespace Go.Proofs.YtopijobdblfhoaaGreat.Gm

abbrev E := Int × Int
def red (x : E) : E := (x.1 % 10007, x.2 % 10007)
def Ok (x : E) : Prop := 0 ≤ x.1 ∧ x.1 < 10007 ∧ 0 ≤ x.2 ∧ x.2 < 10007
instance (x : E) : Decidable (Ok x) := by unfold Ok; infer_instance
def gadd (x y : E) : E := (x.1 + y.1, x.2 + y.2)
def gsub (x y : E) : E := (x.1 - y.1, x.2 - y.2)
def gmul (x y : E) : E := (x.1 * y.1 - x.2 * y.2, x.1 * y.2 + x.2 * y.1)
def add (x y : E) : E := red (gadd x y)
def sub (x y : E) : E := red (gsub x y)
def mul (x y : E) : E := red (gmul x y)
def gpow (x : E) : Nat → E
 | 0 => (1, 0)
 | n + 1 => gmul (gpow x n) x
def pow (x : E) (n : Nat) : E := red (gpow x n)
def conj (x : E) : E := red (x.1, -x.2)
def norm (x : E) : Int := (x.1 * x.1 + x.2 * x.2) % 10007

theorem red_ok (x : E) : Ok (red x) := by unfold Ok red; simp only; omega
theorem red_of_ok {x : E} (h : Ok x) : red x = x := by
 obtain ⟨a, b⟩ := x; unfold Ok at h; unfold red; simp only at *
 rw [Int.emod_eq_of_lt h.1 h.2.1, Int.emod_eq_of_lt h.2.2.1 h.2.2.2]
theorem red_red (x : E) : red (red x) = red x := red_of_ok (red_ok x)
def Cg (x y : E) : Prop := red x = red y
theorem Qea (x : E) : Cg (red x) x := red_red x
theorem Cg.rfl' (x : E) : Cg x x := rfl
theorem Cg.symm {x y : E} (h : Cg x y) : Cg y x := Eq.symm h
theorem Cg.trans {x y z : E} (h : Cg x y) (g : Cg y z) : Cg x z := Eq.trans h g
theorem Qhe {x y : E} : Cg x y ↔ x.1 % 10007 = y.1 % 10007 ∧ x.2 % 10007 = y.2 % 10007 := by
 unfold Cg red; simp
theorem Qkm {x y : E} : Cg x y ↔ (∃ k, x.1 = y.1 + 10007 * k) ∧ (∃ k, x.2 = y.2 + 10007 * k) := by
 rw [Qhe]; constructor
 ·
  rintro ⟨h1, h2⟩; exact ⟨⟨x.1 / 10007 - y.1 / 10007, by omega⟩, ⟨x.2 / 10007 - y.2 / 10007, by omega⟩⟩
 ·
  rintro ⟨⟨k, h1⟩, ⟨l, h2⟩⟩; constructor <;> omega
theorem Qh2 {x y u v : E} (h : Cg x u) (g : Cg y v) : Cg (gadd x y) (gadd u v) := by
 rw [Qkm] at *; obtain ⟨⟨a, ha⟩, ⟨b, hb⟩⟩ := h; obtain ⟨⟨c, hc⟩, ⟨d, hd⟩⟩ := g; exact ⟨⟨a + c, by simp only [gadd]; rw [ha, hc]; grind⟩, ⟨b + d, by simp only [gadd]; rw [hb, hd]; grind⟩⟩
theorem cg_sub {x y u v : E} (h : Cg x u) (g : Cg y v) : Cg (gsub x y) (gsub u v) := by
 rw [Qkm] at *; obtain ⟨⟨a, ha⟩, ⟨b, hb⟩⟩ := h; obtain ⟨⟨c, hc⟩, ⟨d, hd⟩⟩ := g; exact ⟨⟨a - c, by simp only [gsub]; rw [ha, hc]; grind⟩, ⟨b - d, by simp only [gsub]; rw [hb, hd]; grind⟩⟩
theorem Qf6 {x y u v : E} (h : Cg x u) (g : Cg y v) : Cg (gmul x y) (gmul u v) := by
 rw [Qkm] at *; obtain ⟨⟨a, ha⟩, ⟨b, hb⟩⟩ := h; obtain ⟨⟨c, hc⟩, ⟨d, hd⟩⟩ := g; refine ⟨⟨a * v.1 + u.1 * c + 10007 * a * c - (b * v.2 + u.2 * d + 10007 * b * d), ?_⟩, ⟨a * v.2 + u.1 * d + 10007 * a * d + (b * v.1 + u.2 * c + 10007 * b * c), ?_⟩⟩
 ·
  simp only [gmul]; rw [ha, hb, hc, hd]; grind
 ·
  simp only [gmul]; rw [ha, hb, hc, hd]; grind
theorem Qmk {x y : E} (h : Cg x y) (n : Nat) : Cg (gpow x n) (gpow y n) := by
 induction n with
 | zero => rfl
 | succ n ih => exact Qf6 ih h

theorem Qew (x y : E) : gmul x y = gmul y x := by unfold gmul; ext <;> simp only <;> grind
theorem Qb6 (x y z : E) : gmul (gmul x y) z = gmul x (gmul y z) := by unfold gmul; ext <;> simp only <;> grind
theorem Qpd (x y z : E) : gmul x (gadd y z) = gadd (gmul x y) (gmul x z) := by unfold gmul gadd; ext <;> simp only <;> grind
theorem Qgf (x : E) : gmul x (1, 0) = x := by unfold gmul; ext <;> simp
theorem gone_mul (x : E) : gmul (1, 0) x = x := by unfold gmul; ext <;> simp
theorem Qif (x : E) : gmul x (0, 0) = (0, 0) := by unfold gmul; simp
theorem Qid (x y : E) : gadd x y = gadd y x := by unfold gadd; ext <;> simp only <;> omega
theorem Qgu (x : E) (m n : Nat) : gpow x (m + n) = gmul (gpow x m) (gpow x n) := by
 induction n with
 | zero => rw [gpow, Qgf]; rfl
 | succ n ih => rw [← Nat.add_assoc, gpow, gpow, ih, Qb6]
theorem gpow_one (x : E) : gpow x 1 = x := by rw [gpow, gpow, gone_mul]
theorem Qka (x : E) (m n : Nat) : gpow x (m * n) = gpow (gpow x m) n := by
 induction n with
 | zero => rfl
 | succ n ih => rw [Nat.mul_succ, Qgu, ih, gpow]
theorem Qop (x y : E) (n : Nat) : gpow (gmul x y) n = gmul (gpow x n) (gpow y n) := by
 induction n with
 | zero => rw [gpow, gpow, gpow, Qgf]
 | succ n ih =>
  rw [gpow, gpow, gpow, ih, Qb6, Qb6]; congr 1; rw [← Qb6, ← Qb6]; congr 1; exact Qew _ _

theorem Qme (x y : E) : Ok (add x y) := red_ok _
theorem sub_ok (x y : E) : Ok (sub x y) := red_ok _
theorem mul_ok (x y : E) : Ok (mul x y) := red_ok _
theorem pow_ok (x : E) (n : Nat) : Ok (pow x n) := red_ok _
theorem add_comm (x y : E) : add x y = add y x := by unfold add; rw [Qid]
theorem mul_comm (x y : E) : mul x y = mul y x := by unfold mul; rw [Qew]
theorem mul_assoc (x y z : E) : mul (mul x y) z = mul x (mul y z) :=
 (Qf6 (Qea _) (Cg.rfl' z)).trans ((congrArg red (Qb6 x y z)).trans (Qf6 (Cg.rfl' x) (Qea _)).symm)
theorem add_sub_cancel {x : E} (y : E) (h : Ok x) : sub (add x y) y = x := by
 have e : gsub (gadd x y) y = x := by unfold gsub gadd; ext <;> simp only <;> omega
 have h2 : red (gsub (red (gadd x y)) y) = red (gsub (gadd x y) y) := cg_sub (Qea _) (Cg.rfl' y); rw [e, red_of_ok h] at h2; exact h2
theorem Qfs {x : E} (y : E) (h : Ok x) : add (sub x y) y = x := by
 have e : gadd (gsub x y) y = x := by unfold gsub gadd; ext <;> simp only <;> omega
 have h2 : red (gadd (red (gsub x y)) y) = red (gadd (gsub x y) y) := Qh2 (Qea _) (Cg.rfl' y); rw [e, red_of_ok h] at h2; exact h2
theorem mul_one {x : E} (h : Ok x) : mul x (1, 0) = x := by unfold mul; rw [Qgf]; exact red_of_ok h
theorem add_zero {x : E} (h : Ok x) : add x (0, 0) = x := by
 unfold add gadd; simp only [Int.add_zero]; exact red_of_ok h
theorem mul_zero (x : E) : mul x (0, 0) = (0, 0) := by unfold mul; rw [Qif]; rfl
theorem pow_add (x : E) (m n : Nat) : pow x (m + n) = mul (pow x m) (pow x n) := by
 unfold pow; rw [Qgu]; exact (Qf6 (Qea _) (Qea _)).symm
theorem pow_mul (x : E) (m n : Nat) : pow x (m * n) = pow (pow x m) n := by
 show red (gpow x (m * n)) = red (gpow (red (gpow x m)) n); rw [Qka]; exact (Qmk (Qea _) n).symm
def ch : Nat → Nat → Nat
 | _, 0 => 1
 | 0, _ + 1 => 0
 | n + 1, k + 1 => ch n k + ch n (k + 1)
theorem Qls (n k : Nat) (h : n < k) : ch n k = 0 := by
 induction n generalizing k with
 | zero => cases k with
  | zero => omega
  | succ k => rfl
 | succ n ih => cases k with
  | zero => omega
  | succ k => rw [ch, ih k (by omega), ih (k + 1) (by omega)]
theorem Qim (n : Nat) : ch n n = 1 := by
 induction n with
 | zero => rfl
 | succ n ih => rw [ch, ih, Qls n (n + 1) (by omega)]
theorem Ql0 (n k : Nat) : (k + 1) * ch (n + 1) (k + 1) = (n + 1) * ch n k := by
 induction n generalizing k with
 | zero => cases k with
  | zero => rfl
  | succ k => rw [ch, ch, ch, Qls 0 (k + 1 + 1) (by omega)]; simp
 | succ n ih =>
  cases k with
  | zero =>
   have h := ih 0; have e : ch (n + 1) 0 = 1 := by cases n <;> rfl
   have e' : ch n 0 = 1 := by cases n <;> rfl
   have e2 : ch (n + 1 + 1) (0 + 1) = ch (n + 1) 0 + ch (n + 1) (0 + 1) := ch.eq_3 (n + 1) 0; rw [e'] at h; rw [e2, e]; omega
  | succ k =>
   have h1 := ih k; have h2 := ih (k + 1); rw [ch.eq_3 (n + 1) (k + 1)]; have e : ch (n + 1) (k + 1) = ch n k + ch n (k + 1) := ch.eq_3 n k; generalize ch (n + 1) (k + 1 + 1) = c at *
   rw [Nat.mul_add, h2]; rw [show (k + 1 + 1) * ch (n + 1) (k + 1) = (k + 1) * ch (n + 1) (k + 1) + ch (n + 1) (k + 1) by rw [Nat.add_mul, Nat.one_mul], h1, e]
   grind

theorem Qkt {g : Nat} (h : g ∣ 10007) : g = 1 ∨ g = 10007 := by
 obtain ⟨q, hq⟩ := h; have small : ∀ d, d < 101 → 2 ≤ d → 10007 % d ≠ 0 := by decide +kernel
 by_cases h1 : g = 1
 ·
  exact .inl h1
 by_cases h2 : q = 1
 ·
  subst h2; exact .inr (by omega)
 have hg0 : g ≠ 0 := by rintro rfl; omega
 have hq0 : q ≠ 0 := by rintro rfl; omega
 by_cases hg : g < 101
 ·
  exact absurd (by rw [hq]; exact Nat.mul_mod_right g q) (small g hg (by omega))
 ·
  by_cases hq' : q < 101
  ·
   exact absurd (by rw [hq]; exact Nat.mul_mod_left g q) (small q hq' (by omega))
  ·
   have := Nat.mul_le_mul (show 101 ≤ g by omega) (show 101 ≤ q by omega); omega
theorem Qlc {k : Nat} (h0 : 0 < k) (h : k < 10007) : Nat.Coprime 10007 k := by
 unfold Nat.Coprime
 rcases Qkt (Nat.gcd_dvd_left 10007 k) with e | e
 ·
  exact e
 ·
  have := Nat.le_of_dvd h0 (Nat.gcd_dvd_right 10007 k); omega
def PP : Nat := 10007
theorem PP_eq : PP = 10006 + 1 := rfl
theorem PP_i : PP = 4 * 2501 + 3 := rfl
theorem ch_dvd (k : Nat) (h0 : 0 < k) (h : k < 10007) : 10007 ∣ ch PP k := by
 obtain ⟨j, rfl⟩ : ∃ j, k = j + 1 := ⟨k - 1, by omega⟩; have h2 := Ql0 10006 j; rw [← PP_eq] at h2; refine (Qlc h0 h).dvd_of_dvd_mul_left ⟨ch 10006 j, ?_⟩; rw [h2]; rfl

def gsc (c : Nat) (x : E) : E := ((c : Int) * x.1, (c : Int) * x.2)
def part (x : E) (n : Nat) : Nat → E
 | 0 => (0, 0)
 | m + 1 => gadd (part x n m) (gsc (ch n m) (gpow x m))
theorem Qmj (x : E) (n m : Nat) : gmul (gadd x (1, 0)) (part x n (m + 1)) = gadd (part x (n + 1) (m + 1)) (gsc (ch n m) (gpow x (m + 1))) := by
 induction m with
 | zero =>
  have e : ch n 0 = 1 := by cases n <;> rfl
  simp only [part, e, show ch (n + 1) 0 = 1 from rfl, gpow, gone_mul]; unfold gmul gadd gsc; ext <;> simp <;> omega
 | succ m ih =>
  have e : ch (n + 1) (m + 1) = ch n m + ch n (m + 1) := ch.eq_3 n m; rw [show part x n (m + 1 + 1) = gadd (part x n (m + 1)) (gsc (ch n (m + 1)) (gpow x (m + 1))) from rfl, Qpd, ih]; rw [show part x (n + 1) (m + 1 + 1) = gadd (part x (n + 1) (m + 1)) (gsc (ch (n + 1) (m + 1)) (gpow x (m + 1))) from rfl, e]; rw [show gpow x (m + 1 + 1) = gmul (gpow x (m + 1)) x from rfl]; generalize gpow x (m + 1) = y; generalize part x (n + 1) (m + 1) = q; generalize ch n m = a; generalize ch n (m + 1) = b; unfold gmul gadd gsc; ext <;> simp only [Int.natCast_add] <;> grind
theorem Qpe (x : E) (n : Nat) : gpow (gadd x (1, 0)) n = part x n (n + 1) := by
 induction n with
 | zero => rfl
 | succ n ih =>
  rw [gpow, ih, Qew, Qmj, Qim]; rw [show part x (n + 1) (n + 1 + 1) = gadd (part x (n + 1) (n + 1)) (gsc (ch (n + 1) (n + 1)) (gpow x (n + 1))) from rfl, Qim]
theorem part_cg (x : E) (m : Nat) (h : m < 10007) : Cg (part x PP (m + 1)) (1, 0) := by
 induction m with
 | zero => rfl
 | succ m ih =>
  have h1 := ih (by omega); obtain ⟨c, hc⟩ := ch_dvd (m + 1) (by omega) h
  have h2 : Cg (gsc (ch PP (m + 1)) (gpow x (m + 1))) (0, 0) := by
   rw [Qkm, hc]; exact ⟨⟨(c : Int) * (gpow x (m + 1)).1, by simp only [gsc]; rw [Int.natCast_mul]; grind⟩, ⟨(c : Int) * (gpow x (m + 1)).2, by simp only [gsc]; rw [Int.natCast_mul]; grind⟩⟩
  exact (Qh2 h1 h2).trans rfl
theorem Qoi (x : E) : Cg (gpow (gadd x (1, 0)) PP) (gadd (gpow x PP) (1, 0)) := by
 have h1 := part_cg x 10006 (by omega); rw [← PP_eq] at h1; rw [Qpe, show part x PP (PP + 1) = gadd (part x PP PP) (gsc (ch PP PP) (gpow x PP)) from rfl, Qim]; have e : gsc 1 (gpow x PP) = gpow x PP := by unfold gsc; simp
 rw [e, Qid _ (1, 0)]; exact Qh2 h1 (Cg.rfl' _)
theorem Qkv (x : E) (a : Nat) : Cg (gpow (gadd x (a, 0)) PP) (gadd (gpow x PP) (a, 0)) := by
 induction a with
 | zero => rw [show gadd x (((0 : Nat) : Int), 0) = x by unfold gadd; ext <;> simp]; rw [show gadd (gpow x PP) (((0 : Nat) : Int), 0) = gpow x PP by unfold gadd; ext <;> simp]; rfl
 | succ a ih =>
  have e : gadd x (((a + 1 : Nat) : Int), 0) = gadd (gadd x (a, 0)) (1, 0) := by unfold gadd; ext <;> simp only [Int.natCast_add] <;> omega
  have e' : gadd (gpow x PP) (((a + 1 : Nat) : Int), 0) = gadd (gadd (gpow x PP) (a, 0)) (1, 0) := by unfold gadd; ext <;> simp only [Int.natCast_add] <;> omega
  rw [e, e']; exact (Qoi _).trans (Qh2 ih (Cg.rfl' _))
theorem Qfv (n : Nat) : gpow (0, 0) (n + 1) = (0, 0) := by rw [gpow, Qif]
theorem Qpw (a : Nat) : Cg (gpow ((a : Int), 0) PP) ((a : Int), 0) := by
 have h := Qkv (0, 0) a; rw [show gpow (0, 0) PP = (0, 0) from Qfv 10006] at h; have e : gadd (0, 0) ((a : Int), 0) = ((a : Int), 0) := by unfold gadd; ext <;> simp
 rw [e] at h; exact h
theorem gpow_i4 (n : Nat) : gpow (0, 1) (4 * n) = (1, 0) := by
 rw [Qka]; have e : gpow (0, 1) 4 = (1, 0) := by decide
 rw [e]
 induction n with
 | zero => rfl
 | succ n ih => rw [gpow, ih]; decide
theorem gpow_i3 (n k : Nat) (h : n = 4 * k + 3) : gpow (0, 1) n = (0, -1) := by
 rw [h, Qgu, gpow_i4, gone_mul]; decide
theorem gpow_i : gpow (0, 1) PP = (0, -1) := gpow_i3 _ 2501 PP_i
theorem Qnm {x : E} (h : Ok x) : pow x PP = conj x := by
 obtain ⟨a, b⟩ := x; obtain ⟨h1, h2, h3, h4⟩ := h; simp only at h1 h2 h3 h4; obtain ⟨m, rfl⟩ := Int.eq_ofNat_of_zero_le h1; obtain ⟨n, rfl⟩ := Int.eq_ofNat_of_zero_le h3; have e : ((m : Int), (n : Int)) = gadd (gmul (n, 0) (0, 1)) (m, 0) := by unfold gadd gmul; simp
 have h5 : Cg (gpow (gmul (n, 0) (0, 1)) PP) (gmul (n, 0) (0, -1)) := by
  rw [Qop, gpow_i]; exact Qf6 (Qpw n) (Cg.rfl' _)
 have h6 : gadd (gmul ((n : Int), 0) (0, -1)) ((m : Int), 0) = ((m : Int), -(n : Int)) := by unfold gadd gmul; ext <;> simp
 have h7 := (Qkv (gmul (n, 0) (0, 1)) m).trans (Qh2 h5 (Cg.rfl' _)); rw [← e, h6] at h7; exact h7

theorem Qem (a : Int) (n : Nat) : gpow (a, 0) n = (a ^ n, 0) := by
 induction n with
 | zero => rw [Int.pow_zero]; rfl
 | succ n ih => rw [gpow, ih]; unfold gmul; simp [Int.pow_succ]
theorem ok_int {a : Int} (h0 : 0 ≤ a) (h : a < 10007) : Ok (a, 0) := by unfold Ok; simp only; omega
theorem Qk1 {a b : Int} (ha : a % 10007 ≠ 0) (h : (10007 : Int) ∣ a * b) : (10007 : Int) ∣ b := by
 have hc : Nat.Coprime 10007 a.natAbs := by
  unfold Nat.Coprime
  rcases Qkt (Nat.gcd_dvd_left 10007 a.natAbs) with e | e
  ·
   exact e
  ·
   have h2 := Nat.gcd_dvd_right 10007 a.natAbs; rw [e] at h2; exact absurd (Int.emod_eq_zero_of_dvd (Int.natAbs_dvd_natAbs.1 (show (10007 : Int).natAbs ∣ a.natAbs from h2))) ha
 have h3 : 10007 ∣ a.natAbs * b.natAbs := by rw [← Int.natAbs_mul]; exact Int.natAbs_dvd_natAbs.2 h
 exact Int.natAbs_dvd_natAbs.1 (show (10007 : Int).natAbs ∣ b.natAbs from hc.dvd_of_dvd_mul_left h3)
theorem fermat_one {a : Int} (ha : a % 10007 ≠ 0) : (10007 : Int) ∣ a ^ 10006 - 1 := by
 have h1 : Cg (gpow (((a % 10007).toNat : Int), 0) PP) (((a % 10007).toNat : Int), 0) := Qpw _; have e : (((a % 10007).toNat : Int)) = a % 10007 := Int.toNat_of_nonneg (Int.emod_nonneg _ (by decide)); rw [e] at h1; have h2 : Cg (a % 10007, 0) (a, 0) := by rw [Qhe]; simp
 have h3 := ((Qmk h2 PP).symm.trans h1).trans h2; rw [Qem, Qhe] at h3; have h4 := h3.1; simp only at h4; rw [PP_eq, Int.pow_succ] at h4; refine Qk1 ha ?_; have h5 := Int.dvd_of_emod_eq_zero (Int.emod_eq_emod_iff_emod_sub_eq_zero.1 h4); have e6 : a * (a ^ 10006 - 1) = a ^ 10006 * a - a := by rw [Int.mul_sub, Int.mul_one, Int.mul_comm]
 rw [e6]; exact h5
theorem Qjm {a : Int} (ha : a % 10007 = 0) (n : Nat) : (10007 : Int) ∣ a ^ (n + 1) := by
 rw [Int.pow_succ]; exact Int.dvd_mul_of_dvd_right (Int.dvd_of_emod_eq_zero ha)
theorem neg_mod {A B : Int} (h : (A + B) % 10007 = 0) : A % 10007 = -B % 10007 := by omega
theorem squares {a b : Int} (h : (a * a + b * b) % 10007 = 0) : a % 10007 = 0 ∧ b % 10007 = 0 := by
 have key : ∀ a b : Int, (a * a + b * b) % 10007 = 0 → b % 10007 = 0 := by
  intro a b h
  by_cases hb : b % 10007 = 0
  ·
   exact hb
  exfalso
  have h1 : Cg (a * a, 0) (-(b * b), 0) := by rw [Qhe]; exact ⟨neg_mod h, rfl⟩
  have h2 := Qmk h1 5003; rw [Qem, Qem, Qhe] at h2; have h3 := h2.1; simp only at h3
  have e1 : (a * a) ^ 5003 = a ^ 10006 := by
   rw [show a * a = a ^ 2 by rw [Int.pow_succ, Int.pow_succ]; simp, ← Int.pow_mul]
  have e2 : (-(b * b)) ^ 5003 = -(b ^ 10006) := by
   rw [Int.neg_pow, show b * b = b ^ 2 by rw [Int.pow_succ, Int.pow_succ]; simp, ← Int.pow_mul]; have : (-1 : Int) ^ (5003 % 2) = -1 := by decide
   rw [this]; simp
  rw [e1, e2] at h3; obtain ⟨c, hc⟩ := fermat_one hb
  by_cases ha : a % 10007 = 0
  ·
   obtain ⟨d, hd⟩ := Qjm ha 10005; rw [show 10005 + 1 = 10006 from rfl] at hd; omega
  ·
   obtain ⟨d, hd⟩ := fermat_one ha; omega
 exact ⟨key b a (by rw [Int.add_comm]; exact h), key a b h⟩
theorem norm_zero {x : E} (h : Ok x) (h0 : norm x = 0) : x = (0, 0) := by
 obtain ⟨h1, h2⟩ := squares h0; obtain ⟨a, b⟩ := x; obtain ⟨g1, g2, g3, g4⟩ := h; simp only at *
 rw [Int.emod_eq_of_lt g1 g2] at h1; rw [Int.emod_eq_of_lt g3 g4] at h2; rw [h1, h2]
theorem mul_conj (x : E) : mul x (conj x) = (norm x, 0) := by
 have h : Cg (gmul x (red (x.1, -x.2))) (gmul x (x.1, -x.2)) := Qf6 (Cg.rfl' x) (Qea _); show red (gmul x (red (x.1, -x.2))) = _; rw [show red (gmul x (red (x.1, -x.2))) = red (gmul x (x.1, -x.2)) from h]; unfold red gmul norm
 ext
 ·
  simp only; congr 1; grind
 ·
  simp only; rw [show x.1 * -x.2 + x.2 * x.1 = 0 by grind]; rfl
def NN : Nat := 100140047
theorem NN_eq : NN + 1 = (PP + 1) * 10006 := rfl
theorem mul_inv {x : E} (h : Ok x) (h0 : x ≠ (0, 0)) : mul x (pow x NN) = (1, 0) := by
 have e1 : mul x (pow x NN) = pow x (NN + 1) := by
  rw [pow_add, mul_comm]; congr 1; unfold pow; rw [gpow_one, red_of_ok h]
 have e2 : pow x (PP + 1) = (norm x, 0) := by
  rw [pow_add, Qnm h, mul_comm]; rw [show pow x 1 = x by unfold pow; rw [gpow_one, red_of_ok h]]; exact mul_conj x
 rw [e1, NN_eq, pow_mul, e2]
 have hn : norm x % 10007 ≠ 0 := by
  intro hh
  have : norm x = 0 := by
   unfold norm at *; omega
  exact h0 (norm_zero h this)
 obtain ⟨c, hc⟩ := fermat_one hn; unfold pow; rw [Qem]; unfold red; simp only; have : norm x ^ 10006 % 10007 = 1 := by omega
 rw [this]; rfl
theorem one_mul {x : E} (h : Ok x) : mul (1, 0) x = x := by rw [mul_comm]; exact mul_one h
theorem zero_mul (x : E) : mul (0, 0) x = (0, 0) := by rw [mul_comm]; exact mul_zero x
theorem inv_unique {x y z : E} (hy : Ok y) (hz : Ok z) (h1 : mul x y = (1, 0)) (h2 : mul x z = (1, 0)) : y = z := by
 have : mul y (mul x z) = mul (mul x y) z := by rw [← mul_assoc, mul_comm y x]
 rw [h1, h2, mul_one hy, one_mul hz] at this; exact this
theorem one_ok : Ok (1, 0) := by decide
theorem zero_ok : Ok (0, 0) := by decide
theorem Qd9 {x y : E} (hx : Ok x) (hy : Ok y) : mul x y = (0, 0) ↔ x = (0, 0) ∨ y = (0, 0) := by
 constructor
 ·
  intro h
  by_cases h0 : x = (0, 0)
  ·
   exact .inl h0
  ·
   right; have h1 := mul_inv hx h0; have : mul (pow x NN) (mul x y) = mul (mul x (pow x NN)) y := by rw [← mul_assoc, mul_comm (pow x NN) x]
   rw [h, h1, mul_zero, one_mul hy] at this; exact this.symm
 ·
  rintro (rfl | rfl)
  ·
   exact zero_mul y
  ·
   exact mul_zero x
end Go.Proofs.YtopijobdblfhoaaGreat.Gm
end
section
namespace Go.Proofs.YtopijobdblfhoaaGreat.Gm

theorem mul_left_comm (x y z : E) : mul x (mul y z) = mul y (mul x z) := by rw [← mul_assoc, mul_comm x y, mul_assoc]
theorem zero_add {x : E} (h : Ok x) : add (0, 0) x = x := by rw [add_comm]; exact add_zero h
theorem sub_zero {x : E} (h : Ok x) : sub x (0, 0) = x := by
 unfold sub gsub; simp only [Int.sub_zero]; exact red_of_ok h
theorem Qhr {x y : E} (hx : Ok x) (hy : Ok y) (h : sub x y = (0, 0)) : x = y := by
 have := Qfs y hx; rw [h, zero_add hy] at this; exact this.symm
def Pl : Nat → (E → E) → Prop
 | 0, f => ∀ x, Ok x → f x = (0, 0)
 | n + 1, f => ∀ a, Ok a → ∃ q : E → E, Pl n q ∧ (∀ x, Ok x → Ok (q x)) ∧ ∀ x, Ok x → f x = add (f a) (mul (sub x a) (q x))
theorem pl_roots {n : Nat} {f : E → E} (hf : Pl n f) (X : Nat → E) (hX : ∀ i, i < n → Ok (X i)) (hne : ∀ i j, i < n → j < n → X i = X j → i = j) (h0 : ∀ i, i < n → f (X i) = (0, 0)) (x : E) (hx : Ok x) : f x = (0, 0) := by
 induction n generalizing f with
 | zero => exact hf x hx
 | succ n ih =>
  obtain ⟨q, hq, hqk, he⟩ := hf (X n) (hX n (by omega))
  have hfe : ∀ x, Ok x → f x = mul (sub x (X n)) (q x) := fun x hx => by rw [he x hx, h0 n (by omega), zero_add (mul_ok _ _)]
  have hq0 : ∀ i, i < n → q (X i) = (0, 0) := by
   intro i hi; have h1 := hfe (X i) (hX i (by omega)); rw [h0 i (by omega)] at h1
   rcases (Qd9 (sub_ok _ _) (hqk _ (hX i (by omega)))).1 h1.symm with h2 | h2
   ·
    have := hne i n (by omega) (by omega) (Qhr (hX i (by omega)) (hX n (by omega)) h2); omega
   ·
    exact h2
  rw [hfe x hx, ih hq (fun i hi => hX i (by omega)) (fun i j hi hj => hne i j (by omega) (by omega)) hq0, mul_zero]

def sm (g : Nat → E) : Nat → E
 | 0 => (0, 0)
 | n + 1 => add (sm g n) (g n)
def pr (g : Nat → E) : Nat → E
 | 0 => (1, 0)
 | n + 1 => mul (pr g n) (g n)
theorem sm_ok (g : Nat → E) (n : Nat) : Ok (sm g n) := by cases n with | zero => exact zero_ok | succ n => exact Qme _ _
theorem pr_ok (g : Nat → E) (n : Nat) : Ok (pr g n) := by cases n with | zero => exact one_ok | succ n => exact mul_ok _ _
theorem sm_congr {g h : Nat → E} {n : Nat} (e : ∀ i, i < n → g i = h i) : sm g n = sm h n := by
 induction n with
 | zero => rfl
 | succ n ih => rw [sm, sm, ih (fun i hi => e i (by omega)), e n (by omega)]
theorem pr_congr {g h : Nat → E} {n : Nat} (e : ∀ i, i < n → g i = h i) : pr g n = pr h n := by
 induction n with
 | zero => rfl
 | succ n ih => rw [pr, pr, ih (fun i hi => e i (by omega)), e n (by omega)]
theorem pr_ne {g : Nat → E} {n : Nat} (hk : ∀ i, i < n → Ok (g i)) (h : ∀ i, i < n → g i ≠ (0, 0)) : pr g n ≠ (0, 0) := by
 induction n with
 | zero => rw [pr]; decide
 | succ n ih =>
  rw [pr]; intro e
  rcases (Qd9 (pr_ok _ _) (hk n (by omega))).1 e with e | e
  ·
   exact ih (fun i hi => hk i (by omega)) (fun i hi => h i (by omega)) e
  ·
   exact h n (by omega) e
theorem pr_mul (g h : Nat → E) (n : Nat) : pr (fun i => mul (g i) (h i)) n = mul (pr g n) (pr h n) := by
 induction n with
 | zero => rfl
 | succ n ih =>
  rw [pr, pr, pr, ih, mul_assoc, mul_assoc]; congr 1; rw [mul_left_comm]
def inv (x : E) : E := pow x NN
theorem inv_ok (x : E) : Ok (inv x) := pow_ok _ _
theorem mul_inv' {x : E} (h : Ok x) (h0 : x ≠ (0, 0)) : mul x (inv x) = (1, 0) := mul_inv h h0
def fac (X : Nat → E) (z : E) (k i : Nat) : E := if i = k then (1, 0) else mul (sub (X i) z) (inv (sub (X i) (X k)))
def lag (X : Nat → E) (n : Nat) (z : E) (k : Nat) : E := pr (fac X z k) n
end Go.Proofs.YtopijobdblfhoaaGreat.Gm
end
section
namespace Go.Proofs.YtopijobdblfhoaaGreat.Fl
open Flt

theorem Qg1 (b : Nat) (w : World) : (callFunc 126 #[.float .f64 b]).run Tryz.prog w = .ok (.value (.int .u64 b)) w := by
 rw [run_callFunc_extern Tryz.func126 (by kernel_rfl) (by kernel_rfl) (by kernel_rfl) (e := Extern.MathFloatBits.float64bits) (by kernel_rfl)]; rfl
theorem Qgi (n : Nat) (w : World) : (callFunc 125 #[.int .u64 (n : Int)]).run Tryz.prog w = .ok (.value (.float .f64 n)) w := by
 rw [run_callFunc_extern Tryz.func125 (by kernel_rfl) (by kernel_rfl) (by kernel_rfl) (e := Extern.MathFloatBits.float64frombits) (by kernel_rfl)]; rfl

theorem Qpm (b : Nat) (hb : b < 2 ^ 63) (w : World) : Calls Tryz.prog 122 #[.float .f64 b] w fun e w' => e = .returned (.float .f64 b) ∧ w = w' := by
 have h1 := Qg1 b; have h2 := Qgi b; have h3 := Qjk b hb; clear hb; go_enter Tryz.func122, Tryz.ntmps122; go_wp2; go_ret; exact ⟨rfl, rfl⟩

theorem Ql3 (b : Nat) (hb : b < 2047 * 2 ^ 52) (w : World) : Calls Tryz.prog 120 #[.float .f64 b] w fun e w' => e = .returned (.bool false) ∧ w = w' := by
 have h1 : (FloatKind.f64.format.order b b != some .eq) = false := by rw [Qbo hb hb, Nat.compare_eq_eq.2 rfl]; rfl
 clear hb; go_enter Tryz.func120, Tryz.ntmps120; go_wp2; go_ret; exact ⟨rfl, rfl⟩
theorem inf_c (b : Nat) (hb : b < 2047 * 2 ^ 52) (w : World) : Calls Tryz.prog 119 #[.float .f64 b, .int .i64 0] w fun e w' => e = .returned (.bool false) ∧ w = w' := by
 have h1 : (FloatKind.f64.format.order b 9218868437227405311 == some .gt) = false := by
  rw [Qbo hb (by decide)]
  rcases Nat.lt_trichotomy b 9218868437227405311 with h | h | h
  ·
   rw [Nat.compare_eq_lt.2 h]; rfl
  ·
   rw [Nat.compare_eq_eq.2 h]; rfl
  ·
   omega
 have h2 : b < 2 ^ 63 := by omega
 clear hb; go_enter Tryz.func119, Tryz.ntmps119
 go_wp2_with (go_at_call 122; refine (Qpm _ h2 _).mono ?_; rintro e w' ⟨rfl, rfl⟩)
 go_ret; exact ⟨rfl, rfl⟩
theorem Qes (b : Nat) (h1 : 2 ^ 52 ≤ b) (hb : b < 2047 * 2 ^ 52) (w : World) : Calls Tryz.prog 131 #[.float .f64 b] w fun e w' => e = .returned (.tuple #[.float .f64 b, .int .i64 0]) ∧ w = w' := by
 have h3 : (FloatKind.f64.format.order b 4503599627370496 == some .lt) = false := by
  rw [Qbo hb (by decide)]
  rcases Nat.lt_trichotomy b 4503599627370496 with h | h | h
  ·
   omega
  ·
   rw [Nat.compare_eq_eq.2 h]; rfl
  ·
   rw [Nat.compare_eq_gt.2 h]; rfl
 have h2 : b < 2 ^ 63 := by omega
 clear hb h1; go_enter Tryz.func131, Tryz.ntmps131
 go_wp2_with (go_at_call 122; refine (Qpm _ h2 _).mono ?_; rintro e w' ⟨rfl, rfl⟩)
 go_ret2; exact ⟨rfl, rfl⟩
theorem Qoy (e f b g : Nat) (he : 1 ≤ e) (he2 : e < 2047) (hf : f < 2 ^ 52) (hb : b = e * 2 ^ 52 + f) (hg : g = 1022 * 2 ^ 52 + f) (w : World) : Calls Tryz.prog 128 #[.float .f64 b] w fun en w' => en = .returned (.tuple #[.float .f64 g, .int .i64 ((e : Int) - 1023 + 1)]) ∧ w = w' := by
 have hlt : b < 2047 * 2 ^ 52 := by omega
 have hle : 2 ^ 52 ≤ b := by omega
 have h0 : (FloatKind.f64.format.order b 0 == some .eq) = false := by
  rw [Qbo hlt (by decide)]
  rcases Nat.lt_trichotomy b 0 with h | h | h
  ·
   omega
  ·
   omega
  ·
   rw [Nat.compare_eq_gt.2 h]; rfl
 have hb0 := Qg1 b; have hc := Qgi g; have e1 : (b : Int) / 4503599627370496 = (e : Int) := by omega
 have e2 := Qoe e (by omega); have e3 : bits .andNot .u64 (b : Int) 9218868437227405312 = (f : Int) := by rw [Qf0 b (by omega)]; congr 1; omega
 have e4 : bits .or .u64 (f : Int) 4602678819172646912 = (g : Int) := by
  rw [hg]; exact Qp2 1022 f hf (by omega)
 have he' : (e : Int) < 2047 := by omega
 have he1' : 1 ≤ (e : Int) := by omega
 have E1 := Lib.hid hlt; have E2 := Lib.hid hle; clear hg hlt hle hb hf he he2; go_enter Tryz.func128, Tryz.ntmps128
 go_wp2_with (first | (go_at_call 119; refine (inf_c _ E1.out _).mono ?_; rintro en w' ⟨rfl, rfl⟩) | (go_at_call 120; refine (Ql3 _ E1.out _).mono ?_; rintro en w' ⟨rfl, rfl⟩) | (go_at_call 131; refine (Qes _ E2.out E1.out _).mono ?_; rintro en w' ⟨rfl, rfl⟩))
 go_ret2; exact ⟨rfl, rfl⟩
theorem frexp_c (e f b g : Nat) (he : 1 ≤ e) (he2 : e < 2047) (hf : f < 2 ^ 52) (hb : b = e * 2 ^ 52 + f) (hg : g = 1022 * 2 ^ 52 + f) (w : World) : Calls Tryz.prog 123 #[.float .f64 b] w fun en w' => en = .returned (.tuple #[.float .f64 g, .int .i64 ((e : Int) - 1023 + 1)]) ∧ w = w' := by
 have H := Lib.hid (Qoy e f b g he he2 hf hb hg); clear he he2 hf hb hg; go_enter Tryz.func123, Tryz.ntmps123
 go_wp2_with (go_at_call 128; refine (H.out _).mono ?_; rintro en w' ⟨rfl, rfl⟩)
 go_ret2; exact ⟨rfl, rfl⟩

theorem Qhj (n : Nat) (h0 : n ≠ 0) (h : n < 2 ^ 53) (w : World) : Calls Tryz.prog 123 #[.float .f64 (fw n)] w fun en w' => en = .returned (.tuple #[.float .f64 (1021 * 2 ^ 52 + n * 2 ^ (52 - n.log2)), .int .i64 ((n.log2 : Int) + 1)]) ∧ w = w' := by
 have hL := Qc7 h; obtain ⟨s1, s2⟩ := Qbu h0 h; obtain ⟨f1, f2⟩ := Qom h0 h; refine (frexp_c (1023 + n.log2) (n * 2 ^ (52 - n.log2) - 2 ^ 52) (fw n) (1021 * 2 ^ 52 + n * 2 ^ (52 - n.log2)) (by omega) (by omega) f2 f1 (by omega) w).mono ?_; rintro en w' ⟨rfl, rfl⟩; refine ⟨?_, rfl⟩; rw [show ((1023 + n.log2 : Nat) : Int) - 1023 + 1 = (n.log2 : Int) + 1 by omega]

set_option maxRecDepth 100000 in
theorem Qor (b g f j : Nat) (hj : j ≤ 39) (hf : f = 10007 * 2 ^ 39 - 2 ^ 52) (hb : b = 1036 * 2 ^ 52 + f) (hg : g = (1036 + j) * 2 ^ 52 + f) (hW : fw (10007 * 2 ^ j) = g) (hn : 10007 * 2 ^ j < 2 ^ 53) (w : World) : Calls Tryz.prog 130 #[.float .f64 b, .int .i64 (j : Int)] w fun en w' => en = .returned (.float .f64 g) ∧ w = w' := by
 have hlt : b < 2047 * 2 ^ 52 := by omega
 have hle : 2 ^ 52 ≤ b := by omega
 have hf2 : f < 2 ^ 52 := by omega
 have h0 : (FloatKind.f64.format.order b 0 == some .eq) = false := by
  rw [Qbo hlt (by decide)]
  rcases Nat.lt_trichotomy b 0 with h | h | h
  ·
   omega
  ·
   omega
  ·
   rw [Nat.compare_eq_gt.2 h]; rfl
 have hb0 := Qg1 b; have hc := Qgi g; have e1 : (b : Int) / 4503599627370496 = ((1036 : Nat) : Int) := by omega
 have e2 : bits .and .i64 1036 2047 = 1036 := Qmo 1036 (by omega); have e3 : bits .andNot .u64 (b : Int) 9218868437227405312 = (f : Int) := by rw [Qf0 b (by omega)]; congr 1; omega
 have e4 : bits .or .u64 (f : Int) (((j : Int) + 13 + 1023) * 4503599627370496) = (g : Int) := by
  have := Qp2 (1036 + j) f hf2 (by omega); have e : (((1036 + j) * 2 ^ 52 : Nat) : Int) = ((j : Int) + 13 + 1023) * 4503599627370496 := by omega
  rw [e] at this; rw [hg, ← this]
 have e5 : floatBits .mul .f64 4607182418800017408 g = some g := by
  have := Qmx 1 ((10007 * 2 ^ j : Nat) : Int) (by omega) (by omega) (by omega) (by omega) (by omega); rw [W_one, Qcv, Int.one_mul, Qcv, hW] at this; exact this
 have e6 := fun t w => run_float_arith (P := Tryz.prog) w .mul t .f64 4607182418800017408 g g e5
 have E1 := Lib.hid hlt; have E2 := Lib.hid hle; have hj' : (j : Int) ≤ 39 := by omega
 clear hg hlt hle hb hf hf2 hj hn hW e5; go_enter Tryz.func130, Tryz.ntmps130
 go_wp2_with (first | (go_at_call 119; refine (inf_c _ E1.out _).mono ?_; rintro en w' ⟨rfl, rfl⟩) | (go_at_call 120; refine (Ql3 _ E1.out _).mono ?_; rintro en w' ⟨rfl, rfl⟩) | (go_at_call 131; refine (Qes _ E2.out E1.out _).mono ?_; rintro en w' ⟨rfl, rfl⟩))
 go_ret; exact ⟨rfl, rfl⟩
theorem ldexp_c (b g f j : Nat) (hj : j ≤ 39) (hf : f = 10007 * 2 ^ 39 - 2 ^ 52) (hb : b = 1036 * 2 ^ 52 + f) (hg : g = (1036 + j) * 2 ^ 52 + f) (hW : fw (10007 * 2 ^ j) = g) (hn : 10007 * 2 ^ j < 2 ^ 53) (w : World) : Calls Tryz.prog 124 #[.float .f64 b, .int .i64 (j : Int)] w fun en w' => en = .returned (.float .f64 g) ∧ w = w' := by
 have H := Lib.hid (Qor b g f j hj hf hb hg hW hn); clear hj hf hb hg hW hn; go_enter Tryz.func124, Tryz.ntmps124
 go_wp2_with (go_at_call 130; refine (H.out _).mono ?_; rintro en w' ⟨rfl, rfl⟩)
 go_ret; exact ⟨rfl, rfl⟩

theorem Qk6 (j : Nat) : (10007 * 2 ^ j).log2 = 13 + j := by
 rw [Qct (by decide), show Nat.log2 10007 = 13 by decide]
theorem Qjo (j : Nat) (hj : j ≤ 39) (w : World) : Calls Tryz.prog 124 #[.float .f64 (1036 * 2 ^ 52 + (10007 * 2 ^ 39 - 2 ^ 52)), .int .i64 (j : Int)] w fun en w' => en = .returned (.float .f64 (fw (10007 * 2 ^ j))) ∧ w = w' := by
 have hn : 10007 * 2 ^ j < 2 ^ 53 := by
  have : 2 ^ j ≤ 2 ^ 39 := Nat.pow_le_pow_right (by decide) hj; omega
 have hp : 0 < 2 ^ j := Nat.two_pow_pos j
 have hW : fw (10007 * 2 ^ j) = (1036 + j) * 2 ^ 52 + (10007 * 2 ^ 39 - 2 ^ 52) := by
  rw [Qjv (by omega), Qk6, Nat.mul_assoc, ← Nat.pow_add, show j + (52 - (13 + j)) = 39 by omega]; omega
 rw [hW]; exact ldexp_c _ _ _ j hj rfl rfl rfl hW hn w

theorem Qph (n : Nat) (h : n < 2 ^ 53) : (FloatKind.f64.format.order (fw n) 0 == some .lt) = false := by
 have := Qdz (n : Int) 0 (by omega) (by decide +kernel); rw [Qcv, Qqk] at this; rw [this]
 rcases Int.lt_trichotomy (n : Int) 0 with h | h | h
 ·
  omega
 ·
  rw [Int.compare_eq_eq.2 h]; rfl
 ·
  rw [Int.compare_eq_gt.2 h]; rfl
theorem geq_W (a b : Nat) (ha : a < 2 ^ 53) (hb : b < 2 ^ 53) : (FloatKind.f64.format.order (fw a) (fw b) == some .gt || FloatKind.f64.format.order (fw a) (fw b) == some .eq) = decide (b ≤ a) := by
 have := Qdz (a : Int) (b : Int) (by omega) (by omega); rw [Qcv, Qcv] at this; rw [this]
 rcases Int.lt_trichotomy (a : Int) (b : Int) with h | h | h
 ·
  rw [Int.compare_eq_lt.2 h, decide_eq_false (by omega)]; rfl
 ·
  rw [Int.compare_eq_eq.2 h, decide_eq_true (by omega)]; rfl
 ·
  rw [Int.compare_eq_gt.2 h, decide_eq_true (by omega)]; rfl
theorem lss_fr (a : Nat) (h0 : a ≠ 0) (ha : a < 2 ^ 53) : (FloatKind.f64.format.order (1021 * 2 ^ 52 + a * 2 ^ (52 - a.log2)) (1021 * 2 ^ 52 + 10007 * 2 ^ 39) == some .lt) = decide (a * 2 ^ (52 - a.log2) < 10007 * 2 ^ 39) := by
 obtain ⟨s1, s2⟩ := Qbu h0 ha; rw [Qbo (by omega) (by omega)]; generalize a * 2 ^ (52 - a.log2) = s at *
 rcases Nat.lt_trichotomy (1021 * 2 ^ 52 + s) (1021 * 2 ^ 52 + 10007 * 2 ^ 39) with h | h | h
 ·
  rw [Nat.compare_eq_lt.2 h, decide_eq_true (by omega)]; rfl
 ·
  rw [Nat.compare_eq_eq.2 h, decide_eq_false (by omega)]; rfl
 ·
  rw [Nat.compare_eq_gt.2 h, decide_eq_false (by omega)]; rfl
theorem Qkb {r s : Nat} (hs : s < 2 ^ 53) (h : r < s) : fw r < fw s := by
 have h1 := Qbo (Qb0 (show r < 2 ^ 53 by omega)) (Qb0 hs); have h2 := Qdz (r : Int) (s : Int) (by omega) (by omega); rw [Qcv, Qcv, h1, Int.compare_eq_lt.2 (by omega)] at h2; exact Nat.compare_eq_lt.1 (Option.some.inj h2)
end Go.Proofs.YtopijobdblfhoaaGreat.Fl
end
section
namespace Go.Proofs.YtopijobdblfhoaaGreat.Fl
open Flt
open Go.RowKit

def YF : Nat := 1021 * 2 ^ 52 + 10007 * 2 ^ 39
def PW : Nat := 4666727020758040576
theorem PW_eq : PW = fw 10007 := Qjr.symm
theorem Qon : 1021 * 2 ^ 52 + 10007 * 2 ^ (52 - Nat.log2 10007) = YF := by
 rw [show Nat.log2 10007 = 13 by decide]; rfl
theorem Qmi (w : World) : Calls Tryz.prog 123 #[.float .f64 PW] w fun en w' => en = .returned (.tuple #[.float .f64 YF, .int .i64 14]) ∧ w = w' := by
 have h := Qhj 10007 (by decide) (by decide) w; rw [Qon, show Nat.log2 10007 = 13 by decide, ← PW_eq] at h; exact h
def fr (n : Nat) : Nat := 1021 * 2 ^ 52 + n * 2 ^ (52 - n.log2)
theorem Qkn (n : Nat) (h0 : n ≠ 0) (h : n < 2 ^ 53) (w : World) : Calls Tryz.prog 123 #[.float .f64 (fw n)] w fun en w' => en = .returned (.tuple #[.float .f64 (fr n), .int .i64 ((n.log2 : Int) + 1)]) ∧ w = w' := Qhj n h0 h w
theorem Qnj (a : Nat) (h0 : a ≠ 0) (ha : a < 2 ^ 53) : (FloatKind.f64.format.order (fr a) YF == some .lt) = decide (a * 2 ^ (52 - a.log2) < 10007 * 2 ^ 39) := lss_fr a h0 ha
theorem Qjq (j : Nat) (hj : j ≤ 39) (w : World) : Calls Tryz.prog 124 #[.float .f64 PW, .int .i64 (j : Int)] w fun en w' => en = .returned (.float .f64 (fw (10007 * 2 ^ j))) ∧ w = w' := Qjo j hj w
def Qee (r : Nat) : Nat := if r * 2 ^ (52 - r.log2) < 10007 * 2 ^ 39 then r.log2 - 14 else r.log2 - 13
theorem step_ok {r : Nat} (h : 10007 ≤ r) (hr : r < 2 ^ 53) : (r * 2 ^ (52 - r.log2) < 10007 * 2 ^ 39 → 14 ≤ r.log2) ∧ 13 ≤ r.log2 ∧ r.log2 ≤ 52 ∧ 10007 * 2 ^ Qee r ≤ r ∧ Qee r ≤ 39 := by
 have h0 : r ≠ 0 := by omega
 have hL := Qc7 hr; have h1 := Nat.log2_self_le h0; have h13 : 13 ≤ r.log2 := (Nat.le_log2 h0).2 (by omega)
 have e14 : r * 2 ^ (52 - r.log2) < 10007 * 2 ^ 39 → 14 ≤ r.log2 := by
  intro hlt
  by_cases e : r.log2 = 13
  ·
   rw [e] at hlt; omega
  ·
   omega
 refine ⟨e14, h13, hL, ?_, ?_⟩
 ·
  unfold Qee; split
  ·
   rename_i hlt
   have := e14 hlt; have e : (2:Nat) ^ r.log2 = 2 ^ 14 * 2 ^ (r.log2 - 14) := by rw [← Nat.pow_add]; congr 1; omega
   have : 10007 * 2 ^ (r.log2 - 14) ≤ 2 ^ 14 * 2 ^ (r.log2 - 14) := Nat.mul_le_mul_right _ (by decide); omega
  ·
   rename_i hge
   have e : (2:Nat) ^ 39 = 2 ^ (r.log2 - 13) * 2 ^ (52 - r.log2) := by rw [← Nat.pow_add]; congr 1; omega
   have h2 : 10007 * 2 ^ (r.log2 - 13) * 2 ^ (52 - r.log2) ≤ r * 2 ^ (52 - r.log2) := by
    rw [Nat.mul_assoc, ← e]; omega
   exact Nat.le_of_mul_le_mul_right h2 (Nat.two_pow_pos _)
 ·
  unfold Qee; split <;> omega
theorem Qkw {r : Nat} (h : 10007 * 2 ^ Qee r ≤ r) : (r - 10007 * 2 ^ Qee r) % 10007 = r % 10007 := by
 have : r = (r - 10007 * 2 ^ Qee r) + 10007 * 2 ^ Qee r := by omega
 conv => rhs; rw [this]
 rw [Nat.add_mul_mod_self_left]
theorem Qqf (r s : Nat) (hr : r < 2 ^ 53) (h : s ≤ r) : floatBits .sub .f64 (fw r) (fw s) = some (fw (r - s)) := by
 have := Qpc (r : Int) (s : Int) (by omega) (by omega) (by omega); rw [Qcv, Qcv, show (r : Int) - (s : Int) = ((r - s : Nat) : Int) by omega, Qcv] at this; exact this

def fbits : Value → Nat | .float _ b => b | _ => 0
def ng (m : Nat) : Nat := 2 ^ 63 + fw m
theorem ng_lt {m : Nat} (h : m < 2 ^ 53) : ng m < 2 ^ 64 := by have := Qb0 h; unfold ng; omega
theorem Qlz {m : Nat} (h : m < 2 ^ 53) : bits .andNot .u64 (ng m : Int) 9223372036854775808 = (fw m : Int) := by
 have hb := Qb0 h; rw [show (9223372036854775808 : Int) = ((9223372036854775808 : Nat) : Int) from rfl, u64_andNot_nat (ng m) _ (ng_lt h) (by omega)]; congr 1; rw [show 18446744073709551615 - 9223372036854775808 = 2 ^ 63 - 1 from rfl, Nat.and_two_pow_sub_one_eq_mod]; unfold ng; omega
theorem abs_ng (m : Nat) (h : m < 2 ^ 53) (w : World) : Calls Tryz.prog 122 #[.float .f64 (ng m)] w fun e w' => e = .returned (.float .f64 (fw m)) ∧ w = w' := by
 have h1 := Qg1 (ng m); have h2 := Qgi (fw m); have h3 := Qlz h; clear h; go_enter Tryz.func122, Tryz.ntmps122; go_wp2; go_ret; exact ⟨rfl, rfl⟩
theorem Qpq {m : Nat} (h0 : 0 < m) (h : m < 2 ^ 53) : FloatKind.f64.format.order (ng m) 0 = some .lt := by
 have := Qdz (-(m : Int)) 0 (by omega) (by decide +kernel); rw [W_neg (by omega), Qqk, show (-(m : Int)).natAbs = m by omega, Int.compare_eq_lt.2 (by omega)] at this; exact this
theorem Qgg {m : Nat} (h : m < 2 ^ 53) : FloatKind.f64.format.order (ng m) (ng m) = some .eq := by
 have h1 := Qik true m h; simp only [if_true] at h1; show Ieee.double.order (ng m) (ng m) = _; unfold Ieee.Format.order ng; rw [h1]; simp only [Ieee.Datum.order]; rw [Int.compare_eq_eq.2 rfl]
theorem nan_ng (m : Nat) (h : m < 2 ^ 53) (w : World) : Calls Tryz.prog 120 #[.float .f64 (ng m)] w fun e w' => e = .returned (.bool false) ∧ w = w' := by
 have h1 : (FloatKind.f64.format.order (ng m) (ng m) != some .eq) = false := by rw [Qgg h]; rfl
 clear h; go_enter Tryz.func120, Tryz.ntmps120; go_wp2; go_ret; exact ⟨rfl, rfl⟩
theorem inf_ng (m : Nat) (h : m < 2 ^ 53) (w : World) : Calls Tryz.prog 119 #[.float .f64 (ng m), .int .i64 0] w fun e w' => e = .returned (.bool false) ∧ w = w' := by
 have hb := Qb0 h
 have h1 : (FloatKind.f64.format.order (fw m) 9218868437227405311 == some .gt) = false := by
  rw [Qbo hb (by decide)]
  rcases Nat.lt_trichotomy (fw m) 9218868437227405311 with h | h | h
  ·
   rw [Nat.compare_eq_lt.2 h]; rfl
  ·
   rw [Nat.compare_eq_eq.2 h]; rfl
  ·
   omega
 have H := Lib.hid (abs_ng m h); clear hb h; go_enter Tryz.func119, Tryz.ntmps119
 go_wp2_with (go_at_call 122; refine (H.out _).mono ?_; rintro e w' ⟨rfl, rfl⟩)
 go_ret; exact ⟨rfl, rfl⟩
theorem Qqb {m : Nat} (h : m < 2 ^ 53) : Op.unary .neg (.float .f64 (fw m)) = pure (.float .f64 (ng m)) := by
 have hb := Qb0 h; show (pure (.float .f64 (fw m ^^^ 2 ^ 63)) : Sem Value) = _
 have e : fw m ^^^ 2 ^ 63 = ng m := by
  unfold ng; apply Nat.eq_of_testBit_eq; intro i; rw [Nat.testBit_xor, Nat.testBit_two_pow]
  by_cases hi : 63 = i
  ·
   subst hi; rw [Nat.testBit_two_pow_add_eq, Nat.testBit_lt_two_pow (by omega)]; rfl
  ·
   by_cases hl : i < 63
   ·
    rw [Nat.testBit_two_pow_add_gt hl]; simp [hi]
   ·
    rw [Nat.testBit_lt_two_pow (show fw m < 2 ^ i from Nat.lt_of_lt_of_le (show fw m < 2 ^ 63 by omega) (Nat.pow_le_pow_right (by decide) (by omega))), Nat.testBit_lt_two_pow (show 2 ^ 63 + fw m < 2 ^ i from Nat.lt_of_lt_of_le (show 2 ^ 63 + fw m < 2 ^ 64 by omega) (Nat.pow_le_pow_right (by decide) (by omega)))]; simp [hi]
 rw [e]
theorem neg_ng {m : Nat} (h : m < 2 ^ 53) : Op.unary .neg (.float .f64 (ng m)) = pure (.float .f64 (fw m)) := by
 have h1 := Qqb h
 have h2 : fw m ^^^ 2 ^ 63 = ng m := by
  have h3 : (pure (.float .f64 (fw m ^^^ 2 ^ 63)) : Sem Value) = pure (.float .f64 (ng m)) := h1; have h4 := congrArg (fun s : Sem Value => Sem.run Tryz.prog s default) h3
  simpa using h4
 show (pure (.float .f64 (ng m ^^^ 2 ^ 63)) : Sem Value) = _; rw [← h2, Nat.xor_assoc, Nat.xor_self, Nat.xor_zero]

theorem Qiu (n : Nat) (hn : n < 2 ^ 53) (w : World) : Calls Tryz.prog 118 #[.float .f64 (fw n), .float .f64 PW] w fun en w' => en = .returned (.float .f64 (fw (n % 10007))) ∧ w = w' := by
 have hlt := Qb0 hn; have hplt : PW < 2047 * 2 ^ 52 := by decide
 have h0 : (FloatKind.f64.format.order PW 0 == some .eq) = false := by
  rw [Qbo hplt (by decide)]; rfl
 have hl := Qph n hn; have I1 := Lib.hid (inf_c (fw n) hlt); have I2 := Lib.hid (Ql3 (fw n) hlt); have E2 := Lib.hid hplt; have E3 := Lib.hid (show PW < 2 ^ 63 by decide); have EN := Lib.hid hn; clear hlt hplt hn; go_enter Tryz.func118, Tryz.ntmps118
 go_wp2_with (first | (go_at_call 119; refine (I1.out _).mono ?_; rintro en w' ⟨rfl, rfl⟩) | (go_at_call_of 120 (Value.float .f64 PW); refine (Ql3 _ E2.out _).mono ?_; rintro en w' ⟨rfl, rfl⟩) | (go_at_call 120; refine (I2.out _).mono ?_; rintro en w' ⟨rfl, rfl⟩) | (go_at_call 122; refine (Qpm _ E3.out _).mono ?_; rintro en w' ⟨rfl, rfl⟩) | (go_at_call 123; refine (Qmi _).mono ?_; rintro en w' ⟨rfl, rfl⟩))
 go_loop [7] (fun v => ∃ r : Nat, r < 2 ^ 53 ∧ Hid (r % 10007 = n % 10007) ∧ v = .float .f64 (fw r)) (fun v => fbits v)
 case atStart => exact ⟨n, EN.out, Lib.hid rfl, rfl⟩
 case round =>
  obtain ⟨r, hr, HR, rfl⟩ := hrel; have hO := Qdz (r : Int) (10007 : Int) (by omega) (by decide +kernel); rw [Qcv, Qg0] at hO; have hO2 : FloatKind.f64.format.order (fw r) PW = some (compare (r : Int) (10007 : Int)) := hO; clear hO
  by_cases hc : r < 10007
  ·
   rw [Int.compare_eq_lt.2 (by omega)] at hO2; go_wp2; go_ret; rw [← HR.out, Nat.mod_eq_of_lt hc]; exact ⟨rfl, rfl⟩
  ·
   obtain ⟨q14, q13, q52, qle, q39⟩ := step_ok (show 10007 ≤ r by omega) hr; have hsub := Qqf r _ hr qle; have hF := Lib.hid (Qkn r (by omega) hr); have hm := Lib.hid (Qkw qle); have hlw := Lib.hid (Qkb hr (show r - 10007 * 2 ^ Qee r < r from by have := Nat.two_pow_pos (Qee r); omega)); have hS := Qnj r (by omega) hr; have hLd := Lib.hid (Qjq (Qee r) q39)
   have hO3 : (FloatKind.f64.format.order (fw r) PW == some .gt || FloatKind.f64.format.order (fw r) PW == some .eq) = true := by
    rw [hO2]
    by_cases e : r = 10007
    ·
     rw [Int.compare_eq_eq.2 (by omega)]; rfl
    ·
     rw [Int.compare_eq_gt.2 (by omega)]; rfl
   clear hO2
   have hs3 := fun t w => run_float_arith (P := Tryz.prog) w .sub t .f64 (fw r) _ _ hsub
   clear hsub qle; have hb1 : (r.log2 : Int) ≤ 52 := by omega
   by_cases hd : r * 2 ^ (52 - r.log2) < 10007 * 2 ^ 39
   ·
    have hj : (r.log2 : Int) - 14 = (Qee r : Int) := by
     have := q14 hd; unfold Qee; rw [if_pos hd]; omega
    rw [decide_eq_true hd] at hS; have HJ := Lib.hid hj; have hb2 : 14 ≤ (r.log2 : Int) := by have := q14 hd; omega
    clear hj hd q14 q13
    go_wp2_with (first | (go_at_call 123; refine (hF.out _).mono ?_; rintro en w' ⟨rfl, rfl⟩))
    rw [HJ.out]; refine (hLd.out _).mono ?_; rintro en w' ⟨rfl, rfl⟩; go_wp2
    go_round
    case rel => exact ⟨r - 10007 * 2 ^ Qee r, by omega, Lib.hid (hm.out.trans HR.out), rfl⟩
    case measure => exact hlw.out
   ·
    have hj : (r.log2 : Int) + 1 - 14 = (Qee r : Int) := by
     unfold Qee; rw [if_neg hd]; omega
    rw [decide_eq_false hd] at hS; have HJ := Lib.hid hj; clear hj hd q14
    go_wp2_with (first | (go_at_call 123; refine (hF.out _).mono ?_; rintro en w' ⟨rfl, rfl⟩))
    rw [HJ.out]; refine (hLd.out _).mono ?_; rintro en w' ⟨rfl, rfl⟩; go_wp2
    go_round
    case rel => exact ⟨r - 10007 * 2 ^ Qee r, by omega, Lib.hid (hm.out.trans HR.out), rfl⟩
    case measure => exact hlw.out
theorem mod_neg (n : Nat) (hpos : 0 < n) (hn : n < 2 ^ 53) (w : World) : Calls Tryz.prog 118 #[.float .f64 (ng n), .float .f64 PW] w fun en w' => en = .returned (.float .f64 (ng (n % 10007))) ∧ w = w' := by
 have hlt := Qb0 hn; have hplt : PW < 2047 * 2 ^ 52 := by decide
 have h0 : (FloatKind.f64.format.order PW 0 == some .eq) = false := by
  rw [Qbo hplt (by decide)]; rfl
 have hl : (FloatKind.f64.format.order (ng n) 0 == some .lt) = true := by rw [Qpq hpos hn]; rfl
 have hng := neg_ng hn; have I1 := Lib.hid (inf_ng n hn); have I2 := Lib.hid (nan_ng n hn); have E2 := Lib.hid hplt; have E3 := Lib.hid (show PW < 2 ^ 63 by decide); have EN := Lib.hid hn; clear hlt hplt hn hpos; go_enter Tryz.func118, Tryz.ntmps118
 go_wp2_with (first | (go_at_call 119; refine (I1.out _).mono ?_; rintro en w' ⟨rfl, rfl⟩) | (go_at_call_of 120 (Value.float .f64 PW); refine (Ql3 _ E2.out _).mono ?_; rintro en w' ⟨rfl, rfl⟩) | (go_at_call 120; refine (I2.out _).mono ?_; rintro en w' ⟨rfl, rfl⟩) | (go_at_call 122; refine (Qpm _ E3.out _).mono ?_; rintro en w' ⟨rfl, rfl⟩) | (go_at_call 123; refine (Qmi _).mono ?_; rintro en w' ⟨rfl, rfl⟩))
 go_loop [7] (fun v => ∃ r : Nat, r < 2 ^ 53 ∧ Hid (r % 10007 = n % 10007) ∧ v = .float .f64 (fw r)) (fun v => fbits v)
 case atStart => exact ⟨n, EN.out, Lib.hid rfl, rfl⟩
 case round =>
  obtain ⟨r, hr, HR, rfl⟩ := hrel; have hO := Qdz (r : Int) (10007 : Int) (by omega) (by decide +kernel); rw [Qcv, Qg0] at hO; have hO2 : FloatKind.f64.format.order (fw r) PW = some (compare (r : Int) (10007 : Int)) := hO; clear hO
  by_cases hc : r < 10007
  ·
   rw [Int.compare_eq_lt.2 (by omega)] at hO2; have hnr := Qqb hr; go_wp2; go_ret; rw [← HR.out, Nat.mod_eq_of_lt hc]; exact ⟨rfl, rfl⟩
  ·
   obtain ⟨q14, q13, q52, qle, q39⟩ := step_ok (show 10007 ≤ r by omega) hr; have hsub := Qqf r _ hr qle; have hF := Lib.hid (Qkn r (by omega) hr); have hm := Lib.hid (Qkw qle); have hlw := Lib.hid (Qkb hr (show r - 10007 * 2 ^ Qee r < r from by have := Nat.two_pow_pos (Qee r); omega)); have hS := Qnj r (by omega) hr; have hLd := Lib.hid (Qjq (Qee r) q39)
   have hO3 : (FloatKind.f64.format.order (fw r) PW == some .gt || FloatKind.f64.format.order (fw r) PW == some .eq) = true := by
    rw [hO2]
    by_cases e : r = 10007
    ·
     rw [Int.compare_eq_eq.2 (by omega)]; rfl
    ·
     rw [Int.compare_eq_gt.2 (by omega)]; rfl
   clear hO2
   have hs3 := fun t w => run_float_arith (P := Tryz.prog) w .sub t .f64 (fw r) _ _ hsub
   clear hsub qle; have hb1 : (r.log2 : Int) ≤ 52 := by omega
   by_cases hd : r * 2 ^ (52 - r.log2) < 10007 * 2 ^ 39
   ·
    have hj : (r.log2 : Int) - 14 = (Qee r : Int) := by
     have := q14 hd; unfold Qee; rw [if_pos hd]; omega
    rw [decide_eq_true hd] at hS; have HJ := Lib.hid hj; have hb2 : 14 ≤ (r.log2 : Int) := by have := q14 hd; omega
    clear hj hd q14 q13
    go_wp2_with (first | (go_at_call 123; refine (hF.out _).mono ?_; rintro en w' ⟨rfl, rfl⟩))
    rw [HJ.out]; refine (hLd.out _).mono ?_; rintro en w' ⟨rfl, rfl⟩; go_wp2
    go_round
    case rel => exact ⟨r - 10007 * 2 ^ Qee r, by omega, Lib.hid (hm.out.trans HR.out), rfl⟩
    case measure => exact hlw.out
   ·
    have hj : (r.log2 : Int) + 1 - 14 = (Qee r : Int) := by
     unfold Qee; rw [if_neg hd]; omega
    rw [decide_eq_false hd] at hS; have HJ := Lib.hid hj; clear hj hd q14
    go_wp2_with (first | (go_at_call 123; refine (hF.out _).mono ?_; rintro en w' ⟨rfl, rfl⟩))
    rw [HJ.out]; refine (hLd.out _).mono ?_; rintro en w' ⟨rfl, rfl⟩; go_wp2
    go_round
    case rel => exact ⟨r - 10007 * 2 ^ Qee r, by omega, Lib.hid (hm.out.trans HR.out), rfl⟩
    case measure => exact hlw.out
theorem Qo4 (x b : Nat) (H : ∀ w, Calls Tryz.prog 118 #[.float .f64 x, .float .f64 PW] w fun en w' => en = .returned (.float .f64 b) ∧ w = w') (w : World) : Calls Tryz.prog 116 #[.float .f64 x, .float .f64 PW] w fun en w' => en = .returned (.float .f64 b) ∧ w = w' := by
 have HH := Lib.hid H; clear H; go_enter Tryz.func116, Tryz.ntmps116
 go_wp2_with (go_at_call 118; refine (HH.out _).mono ?_; rintro en w' ⟨rfl, rfl⟩)
 go_ret; exact ⟨rfl, rfl⟩
theorem add_pos {q : Nat} (h : q < 2 ^ 52) : floatBits .add .f64 (fw q) PW = some (fw (q + 10007)) := by
 have := Qpg (q : Int) (10007 : Int) (by omega) (by decide +kernel) (by omega); rw [Qcv, Qg0, show (q : Int) + 10007 = ((q + 10007 : Nat) : Int) by omega, Qcv] at this; exact this
theorem add_ng {q : Nat} (h : q < 10007) : floatBits .add .f64 (ng q) PW = some (fw (10007 - q)) := by
 have h1 := Qik true q (by omega); simp only [if_true] at h1; have h2 := Qc3 10007 (by decide +kernel); rw [Qg0] at h2; show Ieee.double.add (ng q) PW = _; unfold Ieee.Format.add ng PW; rw [h1, h2]; have e : (10007 : Int) - (q : Int) = ((10007 - q : Nat) : Int) := by omega
 have := Qlw (-(q : Int)) 10007 true (decide ((10007 : Int) < 0)) (kk q) (kk (10007 : Int).natAbs) (fun h => by simp; omega) (fun _ => rfl) (fun h => by omega) (by omega); rw [show (-(q : Int)).natAbs = q by omega, show -(q : Int) + 10007 = ((10007 - q : Nat) : Int) by omega, Qcv] at this; exact this
theorem part_go (x y z : Nat) (r : Int) (H1 : ∀ w, Calls Tryz.prog 116 #[.float .f64 x, .float .f64 PW] w fun en w' => en = .returned (.float .f64 y) ∧ w = w')
  (ha : floatBits .add .f64 y PW = some z) (u : Nat) (H2 : ∀ w, Calls Tryz.prog 116 #[.float .f64 z, .float .f64 PW] w fun en w' => en = .returned (.float .f64 u) ∧ w = w') (hi : floatToIntVal .f64 u .i64 = some r) (w : World) :
  Calls Tryz.prog 115 #[.float .f64 x] w fun en w' => en = .returned (.int .i64 r) ∧ w = w' := by
 have a1 : ∀ t w, (binOp .add t (.float .f64 y) (.float .f64 4666727020758040576)).run Tryz.prog w = .ok (.float .f64 z) w := fun t w => run_float_arith (P := Tryz.prog) w .add t .f64 y PW z ha
 have a2 : ∀ w, (convert 144 3 (.float .f64 u)).run Tryz.prog w = .ok (.int .i64 r) w := fun w => run_convert_float_int w _ _ .f64 .i64 u r (by rw [Tryz.underlying144]; rfl) Tryz.underlying3 hi
 have G1 := Lib.hid H1; have G2 := Lib.hid H2; clear H1 H2 ha hi; go_enter Tryz.func115, Tryz.ntmps115
 go_wp2_with fail
 refine (G1.out _).mono ?_; rintro en w' ⟨rfl, rfl⟩
 go_wp2_with fail
 refine (G2.out _).mono ?_; rintro en w' ⟨rfl, rfl⟩; go_wp2; go_ret; exact ⟨rfl, rfl⟩
theorem Qpy (z : Int) (hz : z.natAbs < 2 ^ 52) (w : World) : Calls Tryz.prog 115 #[.float .f64 (W z)] w fun en w' => en = .returned (.int .i64 (z % 10007)) ∧ w = w' := by
 have hti : ∀ r : Nat, r < 10007 → floatToIntVal .f64 (fw r) .i64 = some (r : Int) := fun r hr => by
  have := toInt_W (r : Int) (by omega); rw [Qcv] at this; exact this
 by_cases h : z < 0
 ·
  have hn : z.natAbs < 2 ^ 53 := by omega
  have hq : z.natAbs % 10007 < 10007 := Nat.mod_lt _ (by decide); rw [W_neg h]; refine part_go (ng z.natAbs) (ng (z.natAbs % 10007)) (fw (10007 - z.natAbs % 10007)) _ (Qo4 _ _ (mod_neg z.natAbs (by omega) hn)) (add_ng hq) (fw ((10007 - z.natAbs % 10007) % 10007)) (Qo4 _ _ (Qiu _ (by omega))) ?_ w; exact (hti _ (Nat.mod_lt _ (by decide))).trans (congrArg some (by omega))
 ·
  have hn : z.natAbs < 2 ^ 53 := by omega
  have hq : z.natAbs % 10007 < 10007 := Nat.mod_lt _ (by decide); have e : z = (z.natAbs : Int) := by omega
  rw [e, Qcv]; refine part_go (fw z.natAbs) (fw (z.natAbs % 10007)) (fw (z.natAbs % 10007 + 10007)) _ (Qo4 _ _ (Qiu z.natAbs hn)) (add_pos (by omega)) (fw ((z.natAbs % 10007 + 10007) % 10007)) (Qo4 _ _ (Qiu _ (by omega))) ?_ w; exact (hti _ (Nat.mod_lt _ (by decide))).trans (congrArg some (by omega))
end Go.Proofs.YtopijobdblfhoaaGreat.Fl
end
section
namespace Go.Proofs.YtopijobdblfhoaaGreat.Fl
open Flt
open Go.RowKit

theorem bcell {W w1 : World} (hb : Below W.heap.size W w1) : (∀ b o, b < W.heap.size → w1.cell? ⟨b, o, none⟩ = W.cell? ⟨b, o, none⟩) ∧ (∀ b o, b < W.heap.size → w1.frozen? ⟨b, o, none⟩ = W.frozen? ⟨b, o, none⟩) :=
 ⟨fun b o h => hb.cell (p := ⟨b, o, none⟩) h, fun b o h => hb.frozen (p := ⟨b, o, none⟩) h⟩

def Qfj (a b : Int) : Bool := decide (Gm.Ok (a, b))
theorem Qei (a b : Int) (w : World) : Calls Tryz.prog 69 #[.agg #[.int .i64 a, .int .i64 b]] w fun e w' => e = .returned (.bool (Qfj a b)) ∧ Below w.heap.size w w' := by
 by_cases h1 : 0 ≤ a
 ·
  by_cases h2 : a < 10007
  ·
   by_cases h3 : 0 ≤ b
   ·
    by_cases h4 : b < 10007
    ·
     have e : Qfj a b = true := decide_eq_true ⟨h1, h2, h3, h4⟩; rw [e]; clear e; have d1 : decide (a ≥ 0) = true := decide_eq_true h1; have d2 : decide (a < 10007) = true := decide_eq_true h2; have d3 : decide (b ≥ 0) = true := decide_eq_true h3; have d4 : decide (b < 10007) = true := decide_eq_true h4; go_enter Tryz.func69, Tryz.ntmps69; go_wp2; go_ret; exact ⟨rfl, (Below.refl _ _).alloc (Nat.le_refl _) _⟩
    ·
     have e : Qfj a b = false := decide_eq_false (fun h => h4 h.2.2.2); rw [e]; clear e; have d1 : decide (a ≥ 0) = true := decide_eq_true h1; have d2 : decide (a < 10007) = true := decide_eq_true h2; have d3 : decide (b ≥ 0) = true := decide_eq_true h3; have d4 : decide (b < 10007) = false := decide_eq_false h4; go_enter Tryz.func69, Tryz.ntmps69; go_wp2; go_ret; exact ⟨rfl, (Below.refl _ _).alloc (Nat.le_refl _) _⟩
   ·
    have e : Qfj a b = false := decide_eq_false (fun h => h3 h.2.2.1); rw [e]; clear e; have d1 : decide (a ≥ 0) = true := decide_eq_true h1; have d2 : decide (a < 10007) = true := decide_eq_true h2; have d3 : decide (b ≥ 0) = false := decide_eq_false h3; go_enter Tryz.func69, Tryz.ntmps69; go_wp2; go_ret; exact ⟨rfl, (Below.refl _ _).alloc (Nat.le_refl _) _⟩
  ·
   have e : Qfj a b = false := decide_eq_false (fun h => h2 h.2.1); rw [e]; clear e; have d1 : decide (a ≥ 0) = true := decide_eq_true h1; have d2 : decide (a < 10007) = false := decide_eq_false h2; go_enter Tryz.func69, Tryz.ntmps69; go_wp2; go_ret; exact ⟨rfl, (Below.refl _ _).alloc (Nat.le_refl _) _⟩
 ·
  have e : Qfj a b = false := decide_eq_false (fun h => h1 h.1); rw [e]; clear e; have d1 : decide (a ≥ 0) = false := decide_eq_false h1; go_enter Tryz.func69, Tryz.ntmps69; go_wp2; go_ret; exact ⟨rfl, (Below.refl _ _).alloc (Nat.le_refl _) _⟩
theorem as_c (a b : Int) (ha : a.natAbs < 2 ^ 53) (hb : b.natAbs < 2 ^ 53) (w : World) : Calls Tryz.prog 110 #[.agg #[.int .i64 a, .int .i64 b]] w fun e w' => e = .returned (.complex .f64 (W a) (W b)) ∧ Below w.heap.size w w' := by
 have h1 := Qmc a ha; have h2 := Qmc b hb; clear ha hb; go_enter Tryz.func110, Tryz.ntmps110; go_wp2; go_ret; exact ⟨rfl, (Below.refl _ _).alloc (Nat.le_refl _) _⟩
theorem Qm3 (p q : Int) (hp : p.natAbs < 2 ^ 52) (hq : q.natAbs < 2 ^ 52) (w : World) : Calls Tryz.prog 109 #[.complex .f64 (W p) (W q)] w fun e w' => e = .returned (.agg #[.int .i64 (p % 10007), .int .i64 (q % 10007)]) ∧ Below w.heap.size w w' := by
 have H1 := Lib.hid (Qpy p hp); have H2 := Lib.hid (Qpy q hq); clear hp hq; go_enter Tryz.func109, Tryz.ntmps109
 go_wp2_with fail
 refine (H1.out _).mono ?_; rintro e w' ⟨rfl, rfl⟩
 go_wp2_with fail
 refine (H2.out _).mono ?_; rintro e w' ⟨rfl, rfl⟩; go_wp2; refine bodyPost_ret (v := .agg #[.int .i64 (p % 10007), .int .i64 (q % 10007)]) (by simp [results, Tryz.results109, go_sem]) rfl ⟨rfl, (Below.refl _ _).alloc (Nat.le_refl _) _⟩
theorem Qn9 (a b c d : Int) (ha : 0 ≤ a ∧ a < 10007) (hb : 0 ≤ b ∧ b < 10007) (hc : 0 ≤ c ∧ c < 10007) (hd : 0 ≤ d ∧ d < 10007) : cMulBits (W a) (W b) (W c) (W d) = some (W (a * c - b * d), W (a * d + b * c)) := by
 have bd : ∀ x y : Int, 0 ≤ x ∧ x < 10007 → 0 ≤ y ∧ y < 10007 → 0 ≤ x * y ∧ x * y < 100140049 := by
  intro x y hx hy; exact ⟨Int.mul_nonneg hx.1 hy.1, Int.lt_of_le_of_lt (Int.mul_le_mul (show x ≤ 10006 by omega) (show y ≤ 10006 by omega) hy.1 (by omega)) (by omega)⟩
 have h1 := bd a c ha hc; have h2 := bd b d hb hd; have h3 := bd a d ha hd; have h4 := bd b c hb hc; unfold cMulBits; rw [Qmx a c ha.1 hc.1 (by omega) (by omega) (by omega), Option.bind_some, Qmx b d hb.1 hd.1 (by omega) (by omega) (by omega), Option.bind_some, Qpc _ _ (by omega) (by omega) (by omega), Option.bind_some, Qmx a d ha.1 hd.1 (by omega) (by omega) (by omega), Option.bind_some, Qmx b c hb.1 hc.1 (by omega) (by omega) (by omega), Option.bind_some, Qpg _ _ (by omega) (by omega) (by omega)]; rfl
def Qa2 (w0 : World) (n : Nat) (a b c d : Int) (W : World) : Prop :=
 W.cell? ⟨n, 0, none⟩ = some (.int .i64 a) ∧ W.cell? ⟨n, 1, none⟩ = some (.int .i64 b) ∧ W.cell? ⟨n + 1, 0, none⟩ = some (.int .i64 c) ∧ W.cell? ⟨n + 1, 1, none⟩ = some (.int .i64 d) ∧
 (∃ u v : Value, W.cell? ⟨n + 1 + 1, 0, none⟩ = some u ∧ W.cell? ⟨n + 1 + 1, 1, none⟩ = some v) ∧ W.frozen? ⟨n + 1 + 1, 0, none⟩ = false ∧ W.frozen? ⟨n + 1 + 1, 1, none⟩ = false ∧ n + 1 + 1 < W.heap.size ∧ w0.heap.size = n ∧ Below w0.heap.size w0 W
theorem Qa2.step {w0 : World} {n : Nat} {a b c d : Int} {W W' : World} (h : Qa2 w0 n a b c d W) (hb : Below W.heap.size W W') : Qa2 w0 n a b c d W' := by
 obtain ⟨h1, h2, h3, h4, ⟨u, v, h5, h6⟩, h7, h8, h9, h10, h11⟩ := h; obtain ⟨hc, hf⟩ := bcell hb; have hs := hb.size; refine ⟨(hc _ _ (by omega)).trans h1, (hc _ _ (by omega)).trans h2, (hc _ _ (by omega)).trans h3, (hc _ _ (by omega)).trans h4, ⟨u, v, (hc _ _ h9).trans h5, (hc _ _ h9).trans h6⟩, (hf _ _ h9).trans h7, (hf _ _ h9).trans h8, by omega, h10, h11.trans (hb.mono (by omega))⟩
theorem Qa2.drew' {w0 : World} {n : Nat} {a b c d : Int} {W : World} (h : Qa2 w0 n a b c d W) : Qa2 w0 n a b c d W.drew := h.step (Below.refl _ _).drew
theorem Qa2.all {w0 : World} {n : Nat} {a b c d : Int} {W : World} (h : Qa2 w0 n a b c d W) : W.cell? ⟨n, 0, none⟩ = some (.int .i64 a) ∧ W.cell? ⟨n, 1, none⟩ = some (.int .i64 b) ∧ W.cell? ⟨n + 1, 0, none⟩ = some (.int .i64 c) ∧ W.cell? ⟨n + 1, 1, none⟩ = some (.int .i64 d) ∧ Qa2 w0 n a b c d W :=
 ⟨h.1, h.2.1, h.2.2.1, h.2.2.2.1, h⟩
theorem Qa2.set {w0 : World} {n : Nat} {a b c d : Int} {W : World} (h : Qa2 w0 n a b c d W) (x : Value) (o : Nat) : Qa2 w0 n a b c d (W.setCell ⟨n + 1 + 1, o, none⟩ x) := by
 obtain ⟨h1, h2, h3, h4, ⟨u, v, h5, h6⟩, h7, h8, h9, h10, h11⟩ := h
 have far : ∀ (q : Addr), q.block ≠ n + 1 + 1 → (W.setCell ⟨n + 1 + 1, o, none⟩ x).cell? q = W.cell? q := fun q hq => World.cell?_setCell_far W _ q x (fun e => hq e.symm)
 have fz : ∀ q : Addr, (W.setCell ⟨n + 1 + 1, o, none⟩ x).frozen? q = W.frozen? q := fun q => by simp
 have sz : (W.setCell ⟨n + 1 + 1, o, none⟩ x).heap.size = W.heap.size := by simp
 have some1 : ∀ (k : Nat) (z : Value), W.cell? ⟨n + 1 + 1, k, none⟩ = some z → ∃ y, (W.setCell ⟨n + 1 + 1, o, none⟩ x).cell? ⟨n + 1 + 1, k, none⟩ = some y := fun k z hz => by
  obtain ⟨y, hy⟩ := cell?_setCell_some (w := W) (p := ⟨n + 1 + 1, o, none⟩) (x := x) (q := ⟨n + 1 + 1, k, none⟩) (v := z) hz; exact ⟨y, hy⟩
 obtain ⟨y1, q1⟩ := some1 0 u h5; obtain ⟨y2, q2⟩ := some1 1 v h6; exact ⟨(far _ (by simp; omega)).trans h1, (far _ (by simp; omega)).trans h2, (far _ (by simp)).trans h3, (far _ (by simp)).trans h4, ⟨y1, y2, q1, q2⟩, (fz _).trans h7, (fz _).trans h8, by rw [sz]; exact h9, h10, h11.setCell (by rw [h10]; simp; omega) _⟩
theorem Qa2.store {w0 : World} {n : Nat} {a b c d : Int} {W : World} (h : Qa2 w0 n a b c d W) (x y : Value) : Qa2 w0 n a b c d ((W.setCell ⟨n + 1 + 1, 0, none⟩ x).setCell ⟨n + 1 + 1, 1, none⟩ y) :=
 (h.set x 0).set y 1
theorem Qa2.below {w0 : World} {n : Nat} {a b c d : Int} {W : World} (h : Qa2 w0 n a b c d W) : Below w0.heap.size w0 W := h.2.2.2.2.2.2.2.2.2
end Go.Proofs.YtopijobdblfhoaaGreat.Fl
end
section
namespace Go.Proofs.YtopijobdblfhoaaGreat.Fl
open Flt
open Go.RowKit

set_option maxHeartbeats 4000000 in
set_option maxRecDepth 100000 in
theorem Qo3 (a b c d p q : Int) (hx : Gm.Ok (a, b)) (hy : Gm.Ok (c, d)) (hp : p.natAbs < 2 ^ 52) (hq : q.natAbs < 2 ^ 52)
  (H : ∀ w, Calls Tryz.prog 97 #[.complex .f64 (W a) (W b), .complex .f64 (W c) (W d)] w fun e w' => e = .returned (.complex .f64 (W p) (W q)) ∧ w = w') (w : World) :
  Calls Tryz.prog 95 #[.agg #[.int .i64 a, .int .i64 b], .agg #[.int .i64 c, .int .i64 d], .func (.func 97) #[] #[]] w fun e w' => e = .returned (.agg #[.int .i64 (p % 10007), .int .i64 (q % 10007)]) ∧ Below w.heap.size w w' := by
 have m1 := fun w => Qei a b w
 have m2 := fun w => Qei c d w
 rw [show Qfj a b = true from decide_eq_true hx] at m1; rw [show Qfj c d = true from decide_eq_true hy] at m2; have A1 := Lib.hid (as_c a b (by unfold Gm.Ok at hx; omega) (by unfold Gm.Ok at hx; omega)); have A2 := Lib.hid (as_c c d (by unfold Gm.Ok at hy; omega) (by unfold Gm.Ok at hy; omega)); have A3 := Lib.hid (Qm3 p q hp hq); have M1 := Lib.hid m1; have M2 := Lib.hid m2; have HH := Lib.hid H; clear hx hy hp hq H m1 m2; go_enter Tryz.func95, Tryz.ntmps95
 go_wp2_with fail
 refine (M1.out _).mono ?_; rintro e w1 ⟨rfl, hb1⟩
 have K0 : Qa2 w w.heap.size a b c d (((w.alloc (.cells #[.int .i64 a, .int .i64 b] 28)).alloc (.cells #[.int .i64 c, .int .i64 d] 28)).alloc (.cells #[.int .i64 0, .int .i64 0] 28)) := by
  refine ⟨?_, ?_, ?_, ?_, ⟨.int .i64 0, .int .i64 0, ?_, ?_⟩, ?_, ?_, ?_, rfl, ?_⟩
  all_goals first | (simp; done) | (simp [go_sem]; done) | exact (((Below.refl _ _).alloc (Nat.le_refl _) _).alloc (by simp) _).alloc (by simp; omega) _
 have K1 := Lib.hid (K0.step hb1); clear K0 hb1; obtain ⟨x1, x2, x3, x4, x5⟩ := K1.out; clear x5
 go_wp2_with fail
 refine (M2.out _).mono ?_; rintro e w2 ⟨rfl, hb2⟩; have K2 := Lib.hid (K1.out.step hb2); clear hb2 x1 x2 x3 x4 K1; obtain ⟨x1, x2, x3, x4, x5⟩ := K2.out; clear x5
 go_wp2_with fail
 have K3 : Qa2 w w.heap.size a b c d w2 := K2.out; clear K2
 go_region_held3 (fun w' => w'.cell? ⟨w.heap.size, 0, none⟩ = some (.int .i64 a) ∧ w'.cell? ⟨w.heap.size, 1, none⟩ = some (.int .i64 b) ∧ w'.cell? ⟨w.heap.size + 1, 0, none⟩ = some (.int .i64 c) ∧ w'.cell? ⟨w.heap.size + 1, 1, none⟩ = some (.int .i64 d) ∧ Qa2 w w.heap.size a b c d w')
  (first | exact (K3.drew').all | (go_split_ands; refine Qa2.all ?_; assumption) | (go_split_ands; refine Qa2.all (Qa2.store ?_ _ _); assumption) | (go_split_ands; exact (Qa2.step (by assumption) (by assumption)).all))
  (first | (go_at_call_of 110 (Value.agg #[.int .i64 a, .int .i64 b]); refine (A1.out _).mono ?_; rintro e w3 ⟨rfl, hb3⟩) | (go_at_call_of 110 (Value.agg #[.int .i64 c, .int .i64 d]); refine (A2.out _).mono ?_; rintro e w4 ⟨rfl, hb4⟩) | (go_at_call 109; refine (A3.out _).mono ?_; rintro e w5 ⟨rfl, hb5⟩; go_split_ands; have y5 := Qa2.step (by assumption) hb5; obtain ⟨-, -, -, -, ⟨u5, v5, y6, y7⟩, y8, y9, y10, -⟩ := y5) | (refine (HH.out _).mono ?_; rintro e w6 ⟨rfl, rfl⟩))
 go_wp2
 go_split_ands
 refine bodyPost_ret (v := .agg #[.int .i64 (p % 10007), .int .i64 (q % 10007)]) ?hr rfl ⟨rfl, Qa2.below (by assumption)⟩; simp [results, Tryz.results95, go_sem, y6, y7]
end Go.Proofs.YtopijobdblfhoaaGreat.Fl
end
section
namespace Go.Proofs.YtopijobdblfhoaaGreat.Fl
open Flt
open Go.RowKit

set_option maxHeartbeats 4000000 in
set_option maxRecDepth 100000 in
theorem Qpr (a b c d p q : Int) (hx : Gm.Ok (a, b)) (hy : Gm.Ok (c, d)) (hp : p.natAbs < 2 ^ 52) (hq : q.natAbs < 2 ^ 52)
  (H : ∀ w, Calls Tryz.prog 96 #[.complex .f64 (W a) (W b), .complex .f64 (W c) (W d)] w fun e w' => e = .returned (.complex .f64 (W p) (W q)) ∧ w = w') (w : World) :
  Calls Tryz.prog 95 #[.agg #[.int .i64 a, .int .i64 b], .agg #[.int .i64 c, .int .i64 d], .func (.func 96) #[] #[]] w fun e w' => e = .returned (.agg #[.int .i64 (p % 10007), .int .i64 (q % 10007)]) ∧ Below w.heap.size w w' := by
 have m1 := fun w => Qei a b w
 have m2 := fun w => Qei c d w
 rw [show Qfj a b = true from decide_eq_true hx] at m1; rw [show Qfj c d = true from decide_eq_true hy] at m2; have A1 := Lib.hid (as_c a b (by unfold Gm.Ok at hx; omega) (by unfold Gm.Ok at hx; omega)); have A2 := Lib.hid (as_c c d (by unfold Gm.Ok at hy; omega) (by unfold Gm.Ok at hy; omega)); have A3 := Lib.hid (Qm3 p q hp hq); have M1 := Lib.hid m1; have M2 := Lib.hid m2; have HH := Lib.hid H; clear hx hy hp hq H m1 m2; go_enter Tryz.func95, Tryz.ntmps95
 go_wp2_with fail
 refine (M1.out _).mono ?_; rintro e w1 ⟨rfl, hb1⟩
 have K0 : Qa2 w w.heap.size a b c d (((w.alloc (.cells #[.int .i64 a, .int .i64 b] 28)).alloc (.cells #[.int .i64 c, .int .i64 d] 28)).alloc (.cells #[.int .i64 0, .int .i64 0] 28)) := by
  refine ⟨?_, ?_, ?_, ?_, ⟨.int .i64 0, .int .i64 0, ?_, ?_⟩, ?_, ?_, ?_, rfl, ?_⟩
  all_goals first | (simp; done) | (simp [go_sem]; done) | exact (((Below.refl _ _).alloc (Nat.le_refl _) _).alloc (by simp) _).alloc (by simp; omega) _
 have K1 := Lib.hid (K0.step hb1); clear K0 hb1; obtain ⟨x1, x2, x3, x4, x5⟩ := K1.out; clear x5
 go_wp2_with fail
 refine (M2.out _).mono ?_; rintro e w2 ⟨rfl, hb2⟩; have K2 := Lib.hid (K1.out.step hb2); clear hb2 x1 x2 x3 x4 K1; obtain ⟨x1, x2, x3, x4, x5⟩ := K2.out; clear x5
 go_wp2_with fail
 have K3 : Qa2 w w.heap.size a b c d w2 := K2.out; clear K2
 go_region_held3 (fun w' => w'.cell? ⟨w.heap.size, 0, none⟩ = some (.int .i64 a) ∧ w'.cell? ⟨w.heap.size, 1, none⟩ = some (.int .i64 b) ∧ w'.cell? ⟨w.heap.size + 1, 0, none⟩ = some (.int .i64 c) ∧ w'.cell? ⟨w.heap.size + 1, 1, none⟩ = some (.int .i64 d) ∧ Qa2 w w.heap.size a b c d w')
  (first | exact (K3.drew').all | (go_split_ands; refine Qa2.all ?_; assumption) | (go_split_ands; refine Qa2.all (Qa2.store ?_ _ _); assumption) | (go_split_ands; exact (Qa2.step (by assumption) (by assumption)).all))
  (first | (go_at_call_of 110 (Value.agg #[.int .i64 a, .int .i64 b]); refine (A1.out _).mono ?_; rintro e w3 ⟨rfl, hb3⟩) | (go_at_call_of 110 (Value.agg #[.int .i64 c, .int .i64 d]); refine (A2.out _).mono ?_; rintro e w4 ⟨rfl, hb4⟩) | (go_at_call 109; refine (A3.out _).mono ?_; rintro e w5 ⟨rfl, hb5⟩; go_split_ands; have y5 := Qa2.step (by assumption) hb5; obtain ⟨-, -, -, -, ⟨u5, v5, y6, y7⟩, y8, y9, y10, -⟩ := y5) | (refine (HH.out _).mono ?_; rintro e w6 ⟨rfl, rfl⟩))
 go_wp2
 go_split_ands
 refine bodyPost_ret (v := .agg #[.int .i64 (p % 10007), .int .i64 (q % 10007)]) ?hr rfl ⟨rfl, Qa2.below (by assumption)⟩; simp [results, Tryz.results95, go_sem, y6, y7]
end Go.Proofs.YtopijobdblfhoaaGreat.Fl
end
section
namespace Go.Proofs.YtopijobdblfhoaaGreat.Fl
open Flt
open Go.RowKit

set_option maxHeartbeats 4000000 in
set_option maxRecDepth 100000 in
theorem Qn5 (a b c d p q : Int) (hx : Gm.Ok (a, b)) (hy : Gm.Ok (c, d)) (hp : p.natAbs < 2 ^ 52) (hq : q.natAbs < 2 ^ 52)
  (H : ∀ w, Calls Tryz.prog 112 #[.complex .f64 (W a) (W b), .complex .f64 (W c) (W d)] w fun e w' => e = .returned (.complex .f64 (W p) (W q)) ∧ w = w') (w : World) :
  Calls Tryz.prog 95 #[.agg #[.int .i64 a, .int .i64 b], .agg #[.int .i64 c, .int .i64 d], .func (.func 112) #[] #[]] w fun e w' => e = .returned (.agg #[.int .i64 (p % 10007), .int .i64 (q % 10007)]) ∧ Below w.heap.size w w' := by
 have m1 := fun w => Qei a b w
 have m2 := fun w => Qei c d w
 rw [show Qfj a b = true from decide_eq_true hx] at m1; rw [show Qfj c d = true from decide_eq_true hy] at m2; have A1 := Lib.hid (as_c a b (by unfold Gm.Ok at hx; omega) (by unfold Gm.Ok at hx; omega)); have A2 := Lib.hid (as_c c d (by unfold Gm.Ok at hy; omega) (by unfold Gm.Ok at hy; omega)); have A3 := Lib.hid (Qm3 p q hp hq); have M1 := Lib.hid m1; have M2 := Lib.hid m2; have HH := Lib.hid H; clear hx hy hp hq H m1 m2; go_enter Tryz.func95, Tryz.ntmps95
 go_wp2_with fail
 refine (M1.out _).mono ?_; rintro e w1 ⟨rfl, hb1⟩
 have K0 : Qa2 w w.heap.size a b c d (((w.alloc (.cells #[.int .i64 a, .int .i64 b] 28)).alloc (.cells #[.int .i64 c, .int .i64 d] 28)).alloc (.cells #[.int .i64 0, .int .i64 0] 28)) := by
  refine ⟨?_, ?_, ?_, ?_, ⟨.int .i64 0, .int .i64 0, ?_, ?_⟩, ?_, ?_, ?_, rfl, ?_⟩
  all_goals first | (simp; done) | (simp [go_sem]; done) | exact (((Below.refl _ _).alloc (Nat.le_refl _) _).alloc (by simp) _).alloc (by simp; omega) _
 have K1 := Lib.hid (K0.step hb1); clear K0 hb1; obtain ⟨x1, x2, x3, x4, x5⟩ := K1.out; clear x5
 go_wp2_with fail
 refine (M2.out _).mono ?_; rintro e w2 ⟨rfl, hb2⟩; have K2 := Lib.hid (K1.out.step hb2); clear hb2 x1 x2 x3 x4 K1; obtain ⟨x1, x2, x3, x4, x5⟩ := K2.out; clear x5
 go_wp2_with fail
 have K3 : Qa2 w w.heap.size a b c d w2 := K2.out; clear K2
 go_region_held3 (fun w' => w'.cell? ⟨w.heap.size, 0, none⟩ = some (.int .i64 a) ∧ w'.cell? ⟨w.heap.size, 1, none⟩ = some (.int .i64 b) ∧ w'.cell? ⟨w.heap.size + 1, 0, none⟩ = some (.int .i64 c) ∧ w'.cell? ⟨w.heap.size + 1, 1, none⟩ = some (.int .i64 d) ∧ Qa2 w w.heap.size a b c d w')
  (first | exact (K3.drew').all | (go_split_ands; refine Qa2.all ?_; assumption) | (go_split_ands; refine Qa2.all (Qa2.store ?_ _ _); assumption) | (go_split_ands; exact (Qa2.step (by assumption) (by assumption)).all))
  (first | (go_at_call_of 110 (Value.agg #[.int .i64 a, .int .i64 b]); refine (A1.out _).mono ?_; rintro e w3 ⟨rfl, hb3⟩) | (go_at_call_of 110 (Value.agg #[.int .i64 c, .int .i64 d]); refine (A2.out _).mono ?_; rintro e w4 ⟨rfl, hb4⟩) | (go_at_call 109; refine (A3.out _).mono ?_; rintro e w5 ⟨rfl, hb5⟩; go_split_ands; have y5 := Qa2.step (by assumption) hb5; obtain ⟨-, -, -, -, ⟨u5, v5, y6, y7⟩, y8, y9, y10, -⟩ := y5) | (refine (HH.out _).mono ?_; rintro e w6 ⟨rfl, rfl⟩))
 go_wp2
 go_split_ands
 refine bodyPost_ret (v := .agg #[.int .i64 (p % 10007), .int .i64 (q % 10007)]) ?hr rfl ⟨rfl, Qa2.below (by assumption)⟩; simp [results, Tryz.results95, go_sem, y6, y7]
end Go.Proofs.YtopijobdblfhoaaGreat.Fl
end
section
namespace Go.Proofs.YtopijobdblfhoaaGreat.Fl
open Flt
open Go.RowKit

def opE (f : Gm.E → Gm.E → Gm.E) (x y : Gm.E) : Gm.E := if Gm.Ok x ∧ Gm.Ok y then f x y else (0, 0)
theorem Qgs (a b c d : Int) (v : Value) (hx : Qfj a b = false) (w : World) : Calls Tryz.prog 95 #[.agg #[.int .i64 a, .int .i64 b], .agg #[.int .i64 c, .int .i64 d], v] w fun e w' => e = .returned (.agg #[.int .i64 0, .int .i64 0]) ∧ Below w.heap.size w w' := by
 have m1 := fun w => Qei a b w
 rw [hx] at m1; have M1 := Lib.hid m1; clear hx m1; go_enter Tryz.func95, Tryz.ntmps95
 go_wp2_with fail
 refine (M1.out _).mono ?_; rintro e w1 ⟨rfl, hb1⟩
 have K0 : Qa2 w w.heap.size a b c d (((w.alloc (.cells #[.int .i64 a, .int .i64 b] 28)).alloc (.cells #[.int .i64 c, .int .i64 d] 28)).alloc (.cells #[.int .i64 0, .int .i64 0] 28)) := by
  refine ⟨?_, ?_, ?_, ?_, ⟨.int .i64 0, .int .i64 0, ?_, ?_⟩, ?_, ?_, ?_, rfl, ?_⟩
  all_goals first | (simp; done) | (simp [go_sem]; done) | exact (((Below.refl _ _).alloc (Nat.le_refl _) _).alloc (by simp) _).alloc (by simp; omega) _
 have K1 := K0.step hb1; have KB := Lib.hid (K1.store (.int .i64 0) (.int .i64 0)); obtain ⟨-, -, -, -, ⟨u5, v5, y6, y7⟩, y8, y9, y10, -⟩ := K1; clear K0 hb1; go_wp2; refine bodyPost_ret (v := .agg #[.int .i64 0, .int .i64 0]) ?hr rfl ⟨rfl, KB.out.below⟩; simp [results, Tryz.results95, go_sem, y6, y7]
theorem Qhb (a b c d : Int) (v : Value) (hx : Qfj a b = true) (hy : Qfj c d = false) (w : World) : Calls Tryz.prog 95 #[.agg #[.int .i64 a, .int .i64 b], .agg #[.int .i64 c, .int .i64 d], v] w fun e w' => e = .returned (.agg #[.int .i64 0, .int .i64 0]) ∧ Below w.heap.size w w' := by
 have m1 := fun w => Qei a b w
 have m2 := fun w => Qei c d w
 rw [hx] at m1; rw [hy] at m2; have M1 := Lib.hid m1; have M2 := Lib.hid m2; clear hx hy m1 m2; go_enter Tryz.func95, Tryz.ntmps95
 go_wp2_with fail
 refine (M1.out _).mono ?_; rintro e w1 ⟨rfl, hb1⟩
 have K0 : Qa2 w w.heap.size a b c d (((w.alloc (.cells #[.int .i64 a, .int .i64 b] 28)).alloc (.cells #[.int .i64 c, .int .i64 d] 28)).alloc (.cells #[.int .i64 0, .int .i64 0] 28)) := by
  refine ⟨?_, ?_, ?_, ?_, ⟨.int .i64 0, .int .i64 0, ?_, ?_⟩, ?_, ?_, ?_, rfl, ?_⟩
  all_goals first | (simp; done) | (simp [go_sem]; done) | exact (((Below.refl _ _).alloc (Nat.le_refl _) _).alloc (by simp) _).alloc (by simp; omega) _
 have K1 := Lib.hid (K0.step hb1); clear K0 hb1; obtain ⟨x1, x2, x3, x4, x5⟩ := K1.out; clear x5
 go_wp2_with fail
 refine (M2.out _).mono ?_; rintro e w2 ⟨rfl, hb2⟩; have K2 := K1.out.step hb2; have KB := Lib.hid (K2.store (.int .i64 0) (.int .i64 0)); clear x1 x2 x3 x4 K1; obtain ⟨-, -, -, -, ⟨u5, v5, y6, y7⟩, y8, y9, y10, -⟩ := K2; clear hb2; go_wp2; refine bodyPost_ret (v := .agg #[.int .i64 0, .int .i64 0]) ?hr rfl ⟨rfl, KB.out.below⟩; simp [results, Tryz.results95, go_sem, y6, y7]
theorem mul1_c (a b c d : Int) (hx : Gm.Ok (a, b)) (hy : Gm.Ok (c, d)) (w : World) : Calls Tryz.prog 97 #[.complex .f64 (W a) (W b), .complex .f64 (W c) (W d)] w fun e w' => e = .returned (.complex .f64 (W (a * c - b * d)) (W (a * d + b * c))) ∧ w = w' := by
 obtain ⟨h1, h2, h3, h4⟩ := hx; obtain ⟨h5, h6, h7, h8⟩ := hy; simp only at h1 h2 h3 h4 h5 h6 h7 h8
 have hop := fun t w => run_complex_mul (P := Tryz.prog) w t _ _ _ _ _ _ (Qn9 a b c d ⟨h1, h2⟩ ⟨h3, h4⟩ ⟨h5, h6⟩ ⟨h7, h8⟩)
 clear h1 h2 h3 h4 h5 h6 h7 h8; go_enter Tryz.func97, Tryz.ntmps97
 go_wp2_with (simp only [hop])
 all_goals (go_ret; exact ⟨rfl, rfl⟩)
theorem Qpi (a b c d : Int) (w : World) : Calls Tryz.prog 95 #[.agg #[.int .i64 a, .int .i64 b], .agg #[.int .i64 c, .int .i64 d], .func (.func 97) #[] #[]] w fun e w' => e = .returned (.agg #[.int .i64 (opE Gm.mul (a, b) (c, d)).1, .int .i64 (opE Gm.mul (a, b) (c, d)).2]) ∧ Below w.heap.size w w' := by
 by_cases hx : Gm.Ok (a, b)
 ·
  by_cases hy : Gm.Ok (c, d)
  ·
   have e : opE Gm.mul (a, b) (c, d) = Gm.mul (a, b) (c, d) := if_pos ⟨hx, hy⟩; rw [e]; obtain ⟨h1, h2, h3, h4⟩ := id hx; obtain ⟨h5, h6, h7, h8⟩ := id hy; simp only at h1 h2 h3 h4 h5 h6 h7 h8
   have bd : ∀ x y : Int, 0 ≤ x ∧ x < 10007 → 0 ≤ y ∧ y < 10007 → 0 ≤ x * y ∧ x * y < 100140049 := fun x y hx hy => ⟨Int.mul_nonneg hx.1 hy.1, Int.lt_of_le_of_lt (Int.mul_le_mul (show x ≤ 10006 by omega) (show y ≤ 10006 by omega) hy.1 (by omega)) (by omega)⟩
   have q1 := bd a c ⟨h1, h2⟩ ⟨h5, h6⟩; have q2 := bd b d ⟨h3, h4⟩ ⟨h7, h8⟩; have q3 := bd a d ⟨h1, h2⟩ ⟨h7, h8⟩; have q4 := bd b c ⟨h3, h4⟩ ⟨h5, h6⟩; exact Qo3 a b c d _ _ hx hy (by omega) (by omega) (mul1_c a b c d hx hy) w
  ·
   have e : opE Gm.mul (a, b) (c, d) = (0, 0) := if_neg (fun h => hy h.2); rw [e]; exact Qhb a b c d _ (decide_eq_true hx) (decide_eq_false hy) w
 ·
  have e : opE Gm.mul (a, b) (c, d) = (0, 0) := if_neg (fun h => hx h.1); rw [e]; exact Qgs a b c d _ (decide_eq_false hx) w
theorem mul_c (a b c d : Int) (w : World) : Calls Tryz.prog 73 #[.agg #[.int .i64 a, .int .i64 b], .agg #[.int .i64 c, .int .i64 d]] w fun e w' => e = .returned (.agg #[.int .i64 (opE Gm.mul (a, b) (c, d)).1, .int .i64 (opE Gm.mul (a, b) (c, d)).2]) ∧ Below w.heap.size w w' := by
 have H := Lib.hid (Qpi a b c d); generalize opE Gm.mul (a, b) (c, d) = r at H ⊢; obtain ⟨r1, r2⟩ := r; go_enter Tryz.func73, Tryz.ntmps73
 go_wp2_with fail
 refine (H.out _).mono ?_; rintro e w1 ⟨rfl, hb1⟩
 have K0 : Qa2 w w.heap.size a b c d (((w.alloc (.cells #[.int .i64 a, .int .i64 b] 28)).alloc (.cells #[.int .i64 c, .int .i64 d] 28)).alloc (.cells #[.int .i64 0, .int .i64 0] 28)) := by
  refine ⟨?_, ?_, ?_, ?_, ⟨.int .i64 0, .int .i64 0, ?_, ?_⟩, ?_, ?_, ?_, rfl, ?_⟩
  all_goals first | (simp; done) | (simp [go_sem]; done) | exact (((Below.refl _ _).alloc (Nat.le_refl _) _).alloc (by simp) _).alloc (by simp; omega) _
 have K1 := K0.step hb1; have KB := Lib.hid (K1.store (.int .i64 r1) (.int .i64 r2)); obtain ⟨-, -, -, -, ⟨u5, v5, y6, y7⟩, y8, y9, y10, -⟩ := K1; clear K0 hb1; go_wp2; refine bodyPost_ret (v := .agg #[.int .i64 r1, .int .i64 r2]) ?hr rfl ⟨rfl, KB.out.below⟩; simp [results, Tryz.results73, go_sem, y6, y7]
theorem add1_c (a b c d : Int) (hx : Gm.Ok (a, b)) (hy : Gm.Ok (c, d)) (w : World) : Calls Tryz.prog 96 #[.complex .f64 (W a) (W b), .complex .f64 (W c) (W d)] w fun e w' => e = .returned (.complex .f64 (W (a + c)) (W (b + d))) ∧ w = w' := by
 obtain ⟨h1, h2, h3, h4⟩ := hx; obtain ⟨h5, h6, h7, h8⟩ := hy; simp only at h1 h2 h3 h4 h5 h6 h7 h8
 have hb : cSumBits .add .f64 (W a) (W b) (W c) (W d) = some (W (a + c), W (b + d)) := by
  unfold cSumBits; rw [Qpg _ _ (by omega) (by omega) (by omega), Option.bind_some, Qpg _ _ (by omega) (by omega) (by omega)]; rfl
 have hop := fun t w => run_complex_sum (P := Tryz.prog) w .add (Or.inl rfl) t .f64 _ _ _ _ _ _ hb
 clear hb; clear h1 h2 h3 h4 h5 h6 h7 h8; go_enter Tryz.func96, Tryz.ntmps96
 go_wp2_with (simp only [hop])
 all_goals (go_ret; exact ⟨rfl, rfl⟩)
theorem Qo9 (a b c d : Int) (w : World) : Calls Tryz.prog 95 #[.agg #[.int .i64 a, .int .i64 b], .agg #[.int .i64 c, .int .i64 d], .func (.func 96) #[] #[]] w fun e w' => e = .returned (.agg #[.int .i64 (opE Gm.add (a, b) (c, d)).1, .int .i64 (opE Gm.add (a, b) (c, d)).2]) ∧ Below w.heap.size w w' := by
 by_cases hx : Gm.Ok (a, b)
 ·
  by_cases hy : Gm.Ok (c, d)
  ·
   have e : opE Gm.add (a, b) (c, d) = Gm.add (a, b) (c, d) := if_pos ⟨hx, hy⟩; rw [e]; obtain ⟨h1, h2, h3, h4⟩ := id hx; obtain ⟨h5, h6, h7, h8⟩ := id hy; simp only at h1 h2 h3 h4 h5 h6 h7 h8; exact Qpr a b c d _ _ hx hy (by omega) (by omega) (add1_c a b c d hx hy) w
  ·
   have e : opE Gm.add (a, b) (c, d) = (0, 0) := if_neg (fun h => hy h.2); rw [e]; exact Qhb a b c d _ (decide_eq_true hx) (decide_eq_false hy) w
 ·
  have e : opE Gm.add (a, b) (c, d) = (0, 0) := if_neg (fun h => hx h.1); rw [e]; exact Qgs a b c d _ (decide_eq_false hx) w
theorem add_c (a b c d : Int) (w : World) : Calls Tryz.prog 72 #[.agg #[.int .i64 a, .int .i64 b], .agg #[.int .i64 c, .int .i64 d]] w fun e w' => e = .returned (.agg #[.int .i64 (opE Gm.add (a, b) (c, d)).1, .int .i64 (opE Gm.add (a, b) (c, d)).2]) ∧ Below w.heap.size w w' := by
 have H := Lib.hid (Qo9 a b c d); generalize opE Gm.add (a, b) (c, d) = r at H ⊢; obtain ⟨r1, r2⟩ := r; go_enter Tryz.func72, Tryz.ntmps72
 go_wp2_with fail
 refine (H.out _).mono ?_; rintro e w1 ⟨rfl, hb1⟩
 have K0 : Qa2 w w.heap.size a b c d (((w.alloc (.cells #[.int .i64 a, .int .i64 b] 28)).alloc (.cells #[.int .i64 c, .int .i64 d] 28)).alloc (.cells #[.int .i64 0, .int .i64 0] 28)) := by
  refine ⟨?_, ?_, ?_, ?_, ⟨.int .i64 0, .int .i64 0, ?_, ?_⟩, ?_, ?_, ?_, rfl, ?_⟩
  all_goals first | (simp; done) | (simp [go_sem]; done) | exact (((Below.refl _ _).alloc (Nat.le_refl _) _).alloc (by simp) _).alloc (by simp; omega) _
 have K1 := K0.step hb1; have KB := Lib.hid (K1.store (.int .i64 r1) (.int .i64 r2)); obtain ⟨-, -, -, -, ⟨u5, v5, y6, y7⟩, y8, y9, y10, -⟩ := K1; clear K0 hb1; go_wp2; refine bodyPost_ret (v := .agg #[.int .i64 r1, .int .i64 r2]) ?hr rfl ⟨rfl, KB.out.below⟩; simp [results, Tryz.results72, go_sem, y6, y7]
theorem sub1_c (a b c d : Int) (hx : Gm.Ok (a, b)) (hy : Gm.Ok (c, d)) (w : World) : Calls Tryz.prog 112 #[.complex .f64 (W a) (W b), .complex .f64 (W c) (W d)] w fun e w' => e = .returned (.complex .f64 (W (a - c)) (W (b - d))) ∧ w = w' := by
 obtain ⟨h1, h2, h3, h4⟩ := hx; obtain ⟨h5, h6, h7, h8⟩ := hy; simp only at h1 h2 h3 h4 h5 h6 h7 h8
 have hb : cSumBits .sub .f64 (W a) (W b) (W c) (W d) = some (W (a - c), W (b - d)) := by
  unfold cSumBits; rw [Qpc _ _ (by omega) (by omega) (by omega), Option.bind_some, Qpc _ _ (by omega) (by omega) (by omega)]; rfl
 have hop := fun t w => run_complex_sum (P := Tryz.prog) w .sub (Or.inr rfl) t .f64 _ _ _ _ _ _ hb
 clear hb; clear h1 h2 h3 h4 h5 h6 h7 h8; go_enter Tryz.func112, Tryz.ntmps112
 go_wp2_with (simp only [hop])
 all_goals (go_ret; exact ⟨rfl, rfl⟩)
theorem Qn2 (a b c d : Int) (w : World) : Calls Tryz.prog 95 #[.agg #[.int .i64 a, .int .i64 b], .agg #[.int .i64 c, .int .i64 d], .func (.func 112) #[] #[]] w fun e w' => e = .returned (.agg #[.int .i64 (opE Gm.sub (a, b) (c, d)).1, .int .i64 (opE Gm.sub (a, b) (c, d)).2]) ∧ Below w.heap.size w w' := by
 by_cases hx : Gm.Ok (a, b)
 ·
  by_cases hy : Gm.Ok (c, d)
  ·
   have e : opE Gm.sub (a, b) (c, d) = Gm.sub (a, b) (c, d) := if_pos ⟨hx, hy⟩; rw [e]; obtain ⟨h1, h2, h3, h4⟩ := id hx; obtain ⟨h5, h6, h7, h8⟩ := id hy; simp only at h1 h2 h3 h4 h5 h6 h7 h8; exact Qn5 a b c d _ _ hx hy (by omega) (by omega) (sub1_c a b c d hx hy) w
  ·
   have e : opE Gm.sub (a, b) (c, d) = (0, 0) := if_neg (fun h => hy h.2); rw [e]; exact Qhb a b c d _ (decide_eq_true hx) (decide_eq_false hy) w
 ·
  have e : opE Gm.sub (a, b) (c, d) = (0, 0) := if_neg (fun h => hx h.1); rw [e]; exact Qgs a b c d _ (decide_eq_false hx) w
theorem sub_c (a b c d : Int) (w : World) : Calls Tryz.prog 99 #[.agg #[.int .i64 a, .int .i64 b], .agg #[.int .i64 c, .int .i64 d]] w fun e w' => e = .returned (.agg #[.int .i64 (opE Gm.sub (a, b) (c, d)).1, .int .i64 (opE Gm.sub (a, b) (c, d)).2]) ∧ Below w.heap.size w w' := by
 have H := Lib.hid (Qn2 a b c d); generalize opE Gm.sub (a, b) (c, d) = r at H ⊢; obtain ⟨r1, r2⟩ := r; go_enter Tryz.func99, Tryz.ntmps99
 go_wp2_with fail
 refine (H.out _).mono ?_; rintro e w1 ⟨rfl, hb1⟩
 have K0 : Qa2 w w.heap.size a b c d (((w.alloc (.cells #[.int .i64 a, .int .i64 b] 28)).alloc (.cells #[.int .i64 c, .int .i64 d] 28)).alloc (.cells #[.int .i64 0, .int .i64 0] 28)) := by
  refine ⟨?_, ?_, ?_, ?_, ⟨.int .i64 0, .int .i64 0, ?_, ?_⟩, ?_, ?_, ?_, rfl, ?_⟩
  all_goals first | (simp; done) | (simp [go_sem]; done) | exact (((Below.refl _ _).alloc (Nat.le_refl _) _).alloc (by simp) _).alloc (by simp; omega) _
 have K1 := K0.step hb1; have KB := Lib.hid (K1.store (.int .i64 r1) (.int .i64 r2)); obtain ⟨-, -, -, -, ⟨u5, v5, y6, y7⟩, y8, y9, y10, -⟩ := K1; clear K0 hb1; go_wp2; refine bodyPost_ret (v := .agg #[.int .i64 r1, .int .i64 r2]) ?hr rfl ⟨rfl, KB.out.below⟩; simp [results, Tryz.results99, go_sem, y6, y7]
end Go.Proofs.YtopijobdblfhoaaGreat.Fl
end
section
namespace Go.Proofs.YtopijobdblfhoaaGreat.Fl
open Flt
open Go.RowKit

theorem Qjh {P : Program} {a : Act} {w : World} {Q : Exit → Act → World → Prop} {c : Code} (h : c.wp P Q a w) : (Code.skip.seq c).wp P Q a w := wp_seq (wp_skip h)
theorem Qfu {P : Program} {a : Act} {w : World} {Q : Exit → Act → World → Prop} {c rest : Code} (l : Nat) (J : Act → World → Prop) (μ : Act → World → Nat) (hf : findLabel c l = some (Code.skip.seq rest))
  (pass : ∀ a w, J a w → rest.wp P (Exit.jump l (fun a' w' => J a' w' ∧ μ a' w' < μ a w) Q) a w)
  (first : (∀ a w, J a w → rest.wp P (Exit.jump l J Q) a w) → c.wp P (Exit.jump l J Q) a w) : (Code.scope c).wp P Q a w :=
 wp_scope_jumps l J μ hf (first fun a w hJ => Code.wp_mono (fun e a' w' h => by
  cases e with
  | goto l' => exact ⟨h.1, h.2.1⟩
  | _ => exact h) (pass a w hJ)) (fun a w hJ => Qjh (pass a w hJ))

def Two (W : World) (n : Nat) (x : Gm.E) : Prop := W.cell? ⟨n, 0, none⟩ = some (.int .i64 x.1) ∧ W.cell? ⟨n, 1, none⟩ = some (.int .i64 x.2) ∧ W.frozen? ⟨n, 0, none⟩ = false ∧ W.frozen? ⟨n, 1, none⟩ = false ∧ n < W.heap.size
theorem Two.step {W W' : World} {n : Nat} {x : Gm.E} (h : Two W n x) (hb : Below W.heap.size W W') : Two W' n x := by
 obtain ⟨h1, h2, h3, h4, h5⟩ := h; obtain ⟨hc, hf⟩ := bcell hb; have hs := hb.size; exact ⟨(hc _ _ h5).trans h1, (hc _ _ h5).trans h2, (hf _ _ h5).trans h3, (hf _ _ h5).trans h4, by omega⟩
theorem Two.far {W : World} {n m : Nat} {x : Gm.E} (h : Two W n x) (hne : n ≠ m) (y z : Value) : Two ((W.setCell ⟨m, 0, none⟩ y).setCell ⟨m, 1, none⟩ z) n x := by
 obtain ⟨h1, h2, h3, h4, h5⟩ := h
 have far : ∀ (V : World) (v : Value) (i j : Nat), (V.setCell ⟨m, i, none⟩ v).cell? ⟨n, j, none⟩ = V.cell? ⟨n, j, none⟩ := fun V v i j => World.cell?_setCell_far V _ _ v (fun e => hne e.symm)
 exact ⟨by rw [far, far]; exact h1, by rw [far, far]; exact h2, by simpa using h3, by simpa using h4, by simpa using h5⟩
theorem Two.put {W : World} {n : Nat} {x : Gm.E} (h : Two W n x) (y : Gm.E) : Two ((W.setCell ⟨n, 0, none⟩ (.int .i64 y.1)).setCell ⟨n, 1, none⟩ (.int .i64 y.2)) n y := by
 obtain ⟨h1, h2, h3, h4, h5⟩ := h; refine ⟨?_, ?_, by simpa using h3, by simpa using h4, by simpa using h5⟩
 ·
  simp [h1, go_sem]
 ·
  simp [h2, go_sem]
theorem opE_mul {x y : Gm.E} (hx : Gm.Ok x) (hy : Gm.Ok y) : opE Gm.mul x y = Gm.mul x y := if_pos ⟨hx, hy⟩
theorem Qj3 (x y : Gm.E) (hx : Gm.Ok x) (hy : Gm.Ok y) (w : World) : Calls Tryz.prog 73 #[.agg #[.int .i64 x.1, .int .i64 x.2], .agg #[.int .i64 y.1, .int .i64 y.2]] w fun e w' => e = .returned (.agg #[.int .i64 (Gm.mul x y).1, .int .i64 (Gm.mul x y).2]) ∧ Below w.heap.size w w' := by
 have h := mul_c x.1 x.2 y.1 y.2 w; rw [opE_mul hx hy] at h; exact h
theorem bit_one {n : Nat} (hn : n < 18446744073709551616) : bits .and .u64 (n : Int) 1 = ((n % 2 : Nat) : Int) := by
 rw [show (1 : Int) = ((1 : Nat) : Int) from rfl, u64_and_nat n 1 hn (by omega)]; congr 1; exact Nat.and_one_is_mod n

structure PowW (w0 : World) (a b : Int) (m : Nat) (ob : Nat) (n : Nat) (x o : Gm.E) (W : World) : Prop where
 hx : Two W w0.heap.size x
 hr : Two W (w0.heap.size + 1) (0, 0)
 ho : Two W ob o
 hne : w0.heap.size + 1 < ob
 okx : Gm.Ok x
 oko : Gm.Ok o
 hn : n < 18446744073709551616
 fin : Gm.mul o (Gm.pow x n) = Gm.pow (a, b) m
 hb : Below w0.heap.size w0 W
theorem pow_even {x : Gm.E} {n : Nat} (_hx : Gm.Ok x) (h : n % 2 = 0) : Gm.pow (Gm.mul x x) (n / 2) = Gm.pow x n := by
 have e : Gm.pow x (2 * (n / 2)) = Gm.pow (Gm.pow x 2) (n / 2) := Gm.pow_mul x 2 (n / 2); rw [show 2 * (n / 2) = n by omega] at e; rw [e]
 have e2 : Gm.pow x 2 = Gm.mul x x := by
  unfold Gm.pow Gm.mul; rw [show Gm.gpow x 2 = Gm.gmul (Gm.gmul (1, 0) x) x from rfl, Gm.gone_mul]
 rw [e2]
theorem pow_odd {x : Gm.E} {n : Nat} (hx : Gm.Ok x) (h : n % 2 = 1) : Gm.mul x (Gm.pow (Gm.mul x x) (n / 2)) = Gm.pow x n := by
 have e := pow_even (n := n - 1) hx (by omega); rw [show (n - 1) / 2 = n / 2 by omega] at e; rw [e, Gm.mul_comm]; have := Gm.pow_add x (n - 1) 1; rw [show n - 1 + 1 = n by omega] at this; rw [this]; congr 1; unfold Gm.pow; rw [Gm.gpow_one, Gm.red_of_ok hx]

set_option maxHeartbeats 1000000 in
theorem pow_c (a b : Int) (m : Nat) (hx : Gm.Ok (a, b)) (hm : m < 18446744073709551616) (w : World) : Calls Tryz.prog 111 #[.agg #[.int .i64 a, .int .i64 b], .int .u64 m] w fun e w' => e = .returned (.agg #[.int .i64 (Gm.pow (a, b) m).1, .int .i64 (Gm.pow (a, b) m).2]) ∧ Below w.heap.size w w' := by
 have m1 := fun w => Qei a b w
 rw [show Qfj a b = true from decide_eq_true hx] at m1; have M1 := Lib.hid m1; have HM := Lib.hid hm; have HX := Lib.hid hx; clear m1 hm hx; go_enter Tryz.func111, Tryz.ntmps111
 go_wp2_with fail
 refine Qfu 0 (fun a' w' => ∃ (n ob : Nat) (x o : Gm.E) (u6 u7 u8 u9 u10 u11 u12 u13 u14 u15 u16 u17 u18 u19 u20 u21 u22 u23 u24 : Value),
  a' = { tmps := #[.agg #[.int .i64 a, .int .i64 b], .int .u64 n, .pointer (some ⟨w.heap.size, 0, none⟩), undef, .pointer (some ⟨w.heap.size + 1, 0, none⟩), .pointer (some ⟨ob, 0, none⟩), u6, u7, u8, u9, u10, u11, u12, u13, u14, u15, u16, u17, u18, u19, u20, u21, u22, u23, u24], defers := [] } ∧ PowW w a b m ob n x o w')
  (fun a' _ => (intOf (a'.tmps.getD 1 undef)).toNat) rfl ?pass ?first
 case first =>
  intro hrest
  go_wp2_with fail
  refine (M1.out _).mono ?_; rintro e w1 ⟨rfl, hb1⟩
  go_wp2_with fail
  go_step3; simp only [Exit.then]; refine (by assumption : ∀ (a : Act) (w : World), Code.wp Tryz.prog _ _ a w → _ ) _ _ (hrest _ _ ?_)
  have T0 : Two ((w.alloc (.cells #[.int .i64 a, .int .i64 b] 28)).alloc (.cells #[.int .i64 0, .int .i64 0] 28)) w.heap.size (a, b) := by
   refine ⟨?_, ?_, ?_, ?_, ?_⟩ <;> first | (simp; done) | (simp [go_sem]; done) | (simp; omega)
  have T1 : Two ((w.alloc (.cells #[.int .i64 a, .int .i64 b] 28)).alloc (.cells #[.int .i64 0, .int .i64 0] 28)) (w.heap.size + 1) (0, 0) := by
   refine ⟨?_, ?_, ?_, ?_, ?_⟩ <;> first | (simp; done) | (simp [go_sem]; done) | (simp; omega)
  have hs1 := hb1.size; have hbb : Below w.heap.size w w1 := (((Below.refl _ _).alloc (Nat.le_refl _) _).alloc (by simp) _).trans (hb1.mono (by simp; omega)); have hal : Below w1.heap.size w1 (w1.alloc (.cells #[.int .i64 1, .int .i64 0] 28)) := (Below.refl _ _).alloc (Nat.le_refl _) _; refine ⟨m, w1.heap.size, (a, b), (1, 0), _, _, _, _, _, _, _, _, _, _, _, _, _, _, _, _, _, _, _, rfl, (T0.step hb1).step hal, (T1.step hb1).step hal, ?_, ?_, HX.out, Gm.one_ok, HM.out, Gm.one_mul (Gm.pow_ok _ _), hbb.trans (hal.mono (hbb.size))⟩
  ·
   refine ⟨?_, ?_, ?_, ?_, ?_⟩ <;> first | (simp; done) | (simp [go_sem]; done)
  ·
   simp at hs1; omega
 case pass =>
  rintro a' w' ⟨n, ob, x, o, u6, u7, u8, u9, u10, u11, u12, u13, u14, u15, u16, u17, u18, u19, u20, u21, u22, u23, u24, rfl, H⟩; obtain ⟨hx, hr, ho, hne, okx, oko, hn, fin, hb⟩ := H; have HT := Lib.hid hx; have HR := Lib.hid hr; have HO := Lib.hid ho; obtain ⟨r1, r2, r3, r4, r5⟩ := hr; obtain ⟨o1, o2, o3, o4, o5⟩ := ho; obtain ⟨x1, x2, x3, x4, x5⟩ := hx; have ne1 : ob ≠ w.heap.size := by omega
  have ne2 : ob ≠ w.heap.size + 1 := by omega
  by_cases h0 : n = 0
  ·
   subst h0
   have hfin : o = Gm.pow (a, b) m := by
    rw [← fin]; exact (Gm.mul_one oko).symm
   have hB : Below w.heap.size w ((w'.setCell ⟨w.heap.size + 1, 0, none⟩ (.int .i64 o.1)).setCell ⟨w.heap.size + 1, 1, none⟩ (.int .i64 o.2)) := (hb.setCell (by simp) _).setCell (by simp) _; have HF := Lib.hid hfin; have HB := Lib.hid hB; clear hfin hB fin hb hn; go_wp2; simp only [Exit.jump]; refine bodyPost_ret (v := .agg #[.int .i64 o.1, .int .i64 o.2]) ?_ rfl ⟨by rw [HF.out], HB.out⟩; simp [results, Tryz.results111, go_sem, r1, r2]
  ·
   have hn0 : ((n : Int) == 0) = false := by rw [beq_eq_false_iff_ne]; omega
   have hb1' := bit_one hn; have M2 := Lib.hid (Qj3 x x okx okx); have HN := Lib.hid hn; have hlt : n / 2 < n := by omega
   rcases Nat.mod_two_eq_zero_or_one n with h2 | h2
   ·
    have hfin : Gm.mul o (Gm.pow (Gm.mul x x) (n / 2)) = Gm.pow (a, b) m := by rw [pow_even okx h2]; exact fin
    rw [h2] at hb1'; have HF := Lib.hid hfin; have HB := Lib.hid hb; have HL := Lib.hid hlt; have OX := Lib.hid okx; have OO := Lib.hid oko; clear hfin hb fin hn h2 hlt h0 okx oko
    go_wp2_with fail
    refine (M2.out _).mono ?_; rintro e w2 ⟨rfl, hb2⟩; have T2 := HT.out.step hb2; have R2 := Lib.hid ((HR.out.step hb2).far (m := w.heap.size) (by omega) (.int .i64 (Gm.mul x x).1) (.int .i64 (Gm.mul x x).2)); have O2 := Lib.hid ((HO.out.step hb2).far (m := w.heap.size) ne1 (.int .i64 (Gm.mul x x).1) (.int .i64 (Gm.mul x x).2)); have P2 := Lib.hid (T2.put (Gm.mul x x)); have B2 := Lib.hid (((HB.out.trans (hb2.mono HB.out.size)).setCell (p := ⟨w.heap.size, 0, none⟩) (by simp) (.int .i64 (Gm.mul x x).1)).setCell (p := ⟨w.heap.size, 1, none⟩) (by simp) (.int .i64 (Gm.mul x x).2)); obtain ⟨z1, z2, z3, z4, z5⟩ := T2; clear hb2; go_wp2; go_step3; have ed : (n : Int) / 2 = ((n / 2 : Nat) : Int) := by omega
    rw [ed]; refine ⟨rfl, ⟨n / 2, ob, Gm.mul x x, o, _, _, _, _, _, _, _, _, _, _, _, _, _, _, _, _, _, _, _, rfl, P2.out, R2.out, O2.out, hne, Gm.mul_ok _ _, OO.out, by have := HN.out; omega, HF.out, B2.out⟩, ?_⟩; have := HL.out; simp only [intOf, Array.getD_eq_getD_getElem?, List.getElem?_toArray, List.getElem?_cons_succ, List.getElem?_cons_zero, Option.getD_some, Int.toNat_natCast]; exact this
   ·
    have hfin : Gm.mul (Gm.mul o x) (Gm.pow (Gm.mul x x) (n / 2)) = Gm.pow (a, b) m := by rw [Gm.mul_assoc, pow_odd okx h2]; exact fin
    rw [h2] at hb1'; have M3 := Lib.hid (Qj3 o x oko okx); have HF := Lib.hid hfin; have HB := Lib.hid hb; have HL := Lib.hid hlt; clear hfin hb fin hn h2 hlt h0 okx oko
    go_wp2_with fail
    refine (M3.out _).mono ?_; rintro e w2 ⟨rfl, hb2⟩; have U2 := HO.out.step hb2; have R2 := Lib.hid ((HR.out.step hb2).far (m := ob) (Ne.symm ne2) (.int .i64 (Gm.mul o x).1) (.int .i64 (Gm.mul o x).2)); have T2 := Lib.hid ((HT.out.step hb2).far (m := ob) (Ne.symm ne1) (.int .i64 (Gm.mul o x).1) (.int .i64 (Gm.mul o x).2)); have O2 := Lib.hid (U2.put (Gm.mul o x)); have B2 := Lib.hid (((HB.out.trans (hb2.mono HB.out.size)).setCell (p := ⟨ob, 0, none⟩) (by simp; omega) (.int .i64 (Gm.mul o x).1)).setCell (p := ⟨ob, 1, none⟩) (by simp; omega) (.int .i64 (Gm.mul o x).2)); obtain ⟨z1, z2, z3, z4, z5⟩ := U2; obtain ⟨y1, y2, y3, y4, y5⟩ := T2.out; clear hb2
    go_wp2_with fail
    refine (M2.out _).mono ?_; rintro e w3 ⟨rfl, hb3⟩; have T3 := T2.out.step hb3; have R3 := Lib.hid ((R2.out.step hb3).far (m := w.heap.size) (by omega) (.int .i64 (Gm.mul x x).1) (.int .i64 (Gm.mul x x).2)); have O3 := Lib.hid ((O2.out.step hb3).far (m := w.heap.size) ne1 (.int .i64 (Gm.mul x x).1) (.int .i64 (Gm.mul x x).2)); have P3 := Lib.hid (T3.put (Gm.mul x x)); have B3 := Lib.hid (((B2.out.trans (hb3.mono B2.out.size)).setCell (p := ⟨w.heap.size, 0, none⟩) (by simp) (.int .i64 (Gm.mul x x).1)).setCell (p := ⟨w.heap.size, 1, none⟩) (by simp) (.int .i64 (Gm.mul x x).2)); obtain ⟨q1, q2, q3, q4, q5⟩ := T3; clear hb3; go_wp2; go_step3; have ed : (n : Int) / 2 = ((n / 2 : Nat) : Int) := by omega
    rw [ed]; refine ⟨rfl, ⟨n / 2, ob, Gm.mul x x, Gm.mul o x, _, _, _, _, _, _, _, _, _, _, _, _, _, _, _, _, _, _, _, rfl, P3.out, R3.out, O3.out, hne, Gm.mul_ok _ _, Gm.mul_ok _ _, by have := HN.out; omega, HF.out, B3.out⟩, ?_⟩; have := HL.out; simp only [intOf, Array.getD_eq_getD_getElem?, List.getElem?_toArray, List.getElem?_cons_succ, List.getElem?_cons_zero, Option.getD_some, Int.toNat_natCast]; exact this
theorem pow_no (a b : Int) (m : Nat) (hx : Qfj a b = false) (w : World) : Calls Tryz.prog 111 #[.agg #[.int .i64 a, .int .i64 b], .int .u64 m] w fun e w' => e = .returned (.agg #[.int .i64 0, .int .i64 0]) ∧ Below w.heap.size w w' := by
 have m1 := fun w => Qei a b w
 rw [hx] at m1; have M1 := Lib.hid m1; clear m1 hx; go_enter Tryz.func111, Tryz.ntmps111
 go_wp2_with fail
 go_step3
 go_wp2_with fail
 refine (M1.out _).mono ?_; rintro e w1 ⟨rfl, hb1⟩
 have T1 : Two ((w.alloc (.cells #[.int .i64 a, .int .i64 b] 28)).alloc (.cells #[.int .i64 0, .int .i64 0] 28)) (w.heap.size + 1) (0, 0) := by
  refine ⟨?_, ?_, ?_, ?_, ?_⟩ <;> first | (simp; done) | (simp [go_sem]; done) | (simp; omega)
 have T2 := T1.step hb1; have B1 := Lib.hid (((((Below.refl _ _).alloc (Nat.le_refl _) _).alloc (by simp) _).trans (hb1.mono (by simp; omega)) : Below w.heap.size w w1).setCell (p := ⟨w.heap.size + 1, 0, none⟩) (by simp) (.int .i64 0) |>.setCell (p := ⟨w.heap.size + 1, 1, none⟩) (by simp) (.int .i64 0)); obtain ⟨z1, z2, z3, z4, z5⟩ := T2; clear T1 hb1; go_wp2; try simp only [Exit.noGoto]
 refine bodyPost_ret (v := .agg #[.int .i64 0, .int .i64 0]) ?_ rfl ⟨rfl, B1.out⟩; simp [results, Tryz.results111, go_sem, z1, z2]
def powE (x : Gm.E) (m : Nat) : Gm.E := if Gm.Ok x then Gm.pow x m else (0, 0)
theorem powE_c (a b : Int) (m : Nat) (hm : m < 18446744073709551616) (w : World) : Calls Tryz.prog 111 #[.agg #[.int .i64 a, .int .i64 b], .int .u64 m] w fun e w' => e = .returned (.agg #[.int .i64 (powE (a, b) m).1, .int .i64 (powE (a, b) m).2]) ∧ Below w.heap.size w w' := by
 unfold powE
 by_cases hx : Gm.Ok (a, b)
 ·
  rw [if_pos hx]; exact pow_c a b m hx hm w
 ·
  rw [if_neg hx]; exact pow_no a b m (decide_eq_false hx) w
end Go.Proofs.YtopijobdblfhoaaGreat.Fl
end
