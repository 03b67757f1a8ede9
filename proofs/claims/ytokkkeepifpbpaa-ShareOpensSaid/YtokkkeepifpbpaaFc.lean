import Derived.Test.YtokkkeepifpbpaaFbMul
import Derived.Test.YtokkkeepifpbpaaFbAdd
import Derived.Test.YtokkkeepifpbpaaFbSub
namespace Go.Proofs.Ytokkkeepifpbpaa.Fl
open Flt
open Go.RowKit

def opE (f : Gm.E → Gm.E → Gm.E) (x y : Gm.E) : Gm.E := if Gm.Ok x ∧ Gm.Ok y then f x y else (0, 0)
theorem both_no1 (a b c d : Int) (v : Value) (hx : mayB a b = false) (w : World) : Calls Try.prog 50 #[.agg #[.int .i64 a, .int .i64 b], .agg #[.int .i64 c, .int .i64 d], v] w fun e w' => e = .returned (.agg #[.int .i64 0, .int .i64 0]) ∧ Below w.heap.size w w' := by
  have m1 := fun w => may_c a b w
  rw [hx] at m1
  have M1 := Lib.hid m1
  clear hx m1
  go_enter Try.func50, Try.ntmps50
  go_wp2_with fail
  refine (M1.out _).mono ?_
  rintro e w1 ⟨rfl, hb1⟩
  have K0 : Held7 w w.heap.size a b c d (((w.alloc (.cells #[.int .i64 a, .int .i64 b] 23)).alloc (.cells #[.int .i64 c, .int .i64 d] 23)).alloc (.cells #[.int .i64 0, .int .i64 0] 23)) := by
    refine ⟨?_, ?_, ?_, ?_, ⟨.int .i64 0, .int .i64 0, ?_, ?_⟩, ?_, ?_, ?_, rfl, ?_⟩
    all_goals first | (simp; done) | (simp [go_sem]; done) | exact (((Below.refl _ _).alloc (Nat.le_refl _) _).alloc (by simp) _).alloc (by simp; omega) _
  have K1 := K0.step hb1
  have KB := Lib.hid (K1.store (.int .i64 0) (.int .i64 0))
  obtain ⟨-, -, -, -, ⟨u5, v5, y6, y7⟩, y8, y9, y10, -⟩ := K1
  clear K0 hb1
  go_wp2
  refine bodyPost_ret (v := .agg #[.int .i64 0, .int .i64 0]) ?hr rfl ⟨rfl, KB.out.below⟩
  simp [results, Try.results50, go_sem, y6, y7]
theorem both_no2 (a b c d : Int) (v : Value) (hx : mayB a b = true) (hy : mayB c d = false) (w : World) : Calls Try.prog 50 #[.agg #[.int .i64 a, .int .i64 b], .agg #[.int .i64 c, .int .i64 d], v] w fun e w' => e = .returned (.agg #[.int .i64 0, .int .i64 0]) ∧ Below w.heap.size w w' := by
  have m1 := fun w => may_c a b w
  have m2 := fun w => may_c c d w
  rw [hx] at m1
  rw [hy] at m2
  have M1 := Lib.hid m1
  have M2 := Lib.hid m2
  clear hx hy m1 m2
  go_enter Try.func50, Try.ntmps50
  go_wp2_with fail
  refine (M1.out _).mono ?_
  rintro e w1 ⟨rfl, hb1⟩
  have K0 : Held7 w w.heap.size a b c d (((w.alloc (.cells #[.int .i64 a, .int .i64 b] 23)).alloc (.cells #[.int .i64 c, .int .i64 d] 23)).alloc (.cells #[.int .i64 0, .int .i64 0] 23)) := by
    refine ⟨?_, ?_, ?_, ?_, ⟨.int .i64 0, .int .i64 0, ?_, ?_⟩, ?_, ?_, ?_, rfl, ?_⟩
    all_goals first | (simp; done) | (simp [go_sem]; done) | exact (((Below.refl _ _).alloc (Nat.le_refl _) _).alloc (by simp) _).alloc (by simp; omega) _
  have K1 := Lib.hid (K0.step hb1)
  clear K0 hb1
  obtain ⟨x1, x2, x3, x4, x5⟩ := K1.out
  clear x5
  go_wp2_with fail
  refine (M2.out _).mono ?_
  rintro e w2 ⟨rfl, hb2⟩
  have K2 := K1.out.step hb2
  have KB := Lib.hid (K2.store (.int .i64 0) (.int .i64 0))
  clear x1 x2 x3 x4 K1
  obtain ⟨-, -, -, -, ⟨u5, v5, y6, y7⟩, y8, y9, y10, -⟩ := K2
  clear hb2
  go_wp2
  refine bodyPost_ret (v := .agg #[.int .i64 0, .int .i64 0]) ?hr rfl ⟨rfl, KB.out.below⟩
  simp [results, Try.results50, go_sem, y6, y7]
theorem mul1_c (a b c d : Int) (hx : Gm.Ok (a, b)) (hy : Gm.Ok (c, d)) (w : World) : Calls Try.prog 51 #[.complex .f64 (W a) (W b), .complex .f64 (W c) (W d)] w fun e w' => e = .returned (.complex .f64 (W (a * c - b * d)) (W (a * d + b * c))) ∧ w = w' := by
  obtain ⟨h1, h2, h3, h4⟩ := hx
  obtain ⟨h5, h6, h7, h8⟩ := hy
  simp only at h1 h2 h3 h4 h5 h6 h7 h8
  have hop := fun t w => run_complex_mul (P := Try.prog) w t _ _ _ _ _ _ (mul_bits a b c d ⟨h1, h2⟩ ⟨h3, h4⟩ ⟨h5, h6⟩ ⟨h7, h8⟩)
  clear h1 h2 h3 h4 h5 h6 h7 h8
  go_enter Try.func51, Try.ntmps51
  go_wp2_with (simp only [hop])
  all_goals (go_ret; exact ⟨rfl, rfl⟩)
theorem mul_both (a b c d : Int) (w : World) : Calls Try.prog 50 #[.agg #[.int .i64 a, .int .i64 b], .agg #[.int .i64 c, .int .i64 d], .func (.func 51) #[] #[]] w fun e w' => e = .returned (.agg #[.int .i64 (opE Gm.mul (a, b) (c, d)).1, .int .i64 (opE Gm.mul (a, b) (c, d)).2]) ∧ Below w.heap.size w w' := by
  by_cases hx : Gm.Ok (a, b)
  · by_cases hy : Gm.Ok (c, d)
    · have e : opE Gm.mul (a, b) (c, d) = Gm.mul (a, b) (c, d) := if_pos ⟨hx, hy⟩
      rw [e]
      obtain ⟨h1, h2, h3, h4⟩ := id hx
      obtain ⟨h5, h6, h7, h8⟩ := id hy
      simp only at h1 h2 h3 h4 h5 h6 h7 h8
      have bd : ∀ x y : Int, 0 ≤ x ∧ x < 10007 → 0 ≤ y ∧ y < 10007 → 0 ≤ x * y ∧ x * y < 100140049 := fun x y hx hy => ⟨Int.mul_nonneg hx.1 hy.1, Int.lt_of_le_of_lt (Int.mul_le_mul (show x ≤ 10006 by omega) (show y ≤ 10006 by omega) hy.1 (by omega)) (by omega)⟩
      have q1 := bd a c ⟨h1, h2⟩ ⟨h5, h6⟩
      have q2 := bd b d ⟨h3, h4⟩ ⟨h7, h8⟩
      have q3 := bd a d ⟨h1, h2⟩ ⟨h7, h8⟩
      have q4 := bd b c ⟨h3, h4⟩ ⟨h5, h6⟩
      exact both_mul a b c d _ _ hx hy (by omega) (by omega) (mul1_c a b c d hx hy) w
    · have e : opE Gm.mul (a, b) (c, d) = (0, 0) := if_neg (fun h => hy h.2)
      rw [e]
      exact both_no2 a b c d _ (decide_eq_true hx) (decide_eq_false hy) w
  · have e : opE Gm.mul (a, b) (c, d) = (0, 0) := if_neg (fun h => hx h.1)
    rw [e]
    exact both_no1 a b c d _ (decide_eq_false hx) w
theorem mul_c (a b c d : Int) (w : World) : Calls Try.prog 29 #[.agg #[.int .i64 a, .int .i64 b], .agg #[.int .i64 c, .int .i64 d]] w fun e w' => e = .returned (.agg #[.int .i64 (opE Gm.mul (a, b) (c, d)).1, .int .i64 (opE Gm.mul (a, b) (c, d)).2]) ∧ Below w.heap.size w w' := by
  have H := Lib.hid (mul_both a b c d)
  generalize opE Gm.mul (a, b) (c, d) = r at H ⊢
  obtain ⟨r1, r2⟩ := r
  go_enter Try.func29, Try.ntmps29
  go_wp2_with fail
  refine (H.out _).mono ?_
  rintro e w1 ⟨rfl, hb1⟩
  have K0 : Held7 w w.heap.size a b c d (((w.alloc (.cells #[.int .i64 a, .int .i64 b] 23)).alloc (.cells #[.int .i64 c, .int .i64 d] 23)).alloc (.cells #[.int .i64 0, .int .i64 0] 23)) := by
    refine ⟨?_, ?_, ?_, ?_, ⟨.int .i64 0, .int .i64 0, ?_, ?_⟩, ?_, ?_, ?_, rfl, ?_⟩
    all_goals first | (simp; done) | (simp [go_sem]; done) | exact (((Below.refl _ _).alloc (Nat.le_refl _) _).alloc (by simp) _).alloc (by simp; omega) _
  have K1 := K0.step hb1
  have KB := Lib.hid (K1.store (.int .i64 r1) (.int .i64 r2))
  obtain ⟨-, -, -, -, ⟨u5, v5, y6, y7⟩, y8, y9, y10, -⟩ := K1
  clear K0 hb1
  go_wp2
  refine bodyPost_ret (v := .agg #[.int .i64 r1, .int .i64 r2]) ?hr rfl ⟨rfl, KB.out.below⟩
  simp [results, Try.results29, go_sem, y6, y7]
theorem add1_c (a b c d : Int) (hx : Gm.Ok (a, b)) (hy : Gm.Ok (c, d)) (w : World) : Calls Try.prog 52 #[.complex .f64 (W a) (W b), .complex .f64 (W c) (W d)] w fun e w' => e = .returned (.complex .f64 (W (a + c)) (W (b + d))) ∧ w = w' := by
  obtain ⟨h1, h2, h3, h4⟩ := hx
  obtain ⟨h5, h6, h7, h8⟩ := hy
  simp only at h1 h2 h3 h4 h5 h6 h7 h8
  have hb : cSumBits .add .f64 (W a) (W b) (W c) (W d) = some (W (a + c), W (b + d)) := by
    unfold cSumBits
    rw [add_W _ _ (by omega) (by omega) (by omega), Option.bind_some, add_W _ _ (by omega) (by omega) (by omega)]; rfl
  have hop := fun t w => run_complex_sum (P := Try.prog) w .add (Or.inl rfl) t .f64 _ _ _ _ _ _ hb
  clear hb
  clear h1 h2 h3 h4 h5 h6 h7 h8
  go_enter Try.func52, Try.ntmps52
  go_wp2_with (simp only [hop])
  all_goals (go_ret; exact ⟨rfl, rfl⟩)
theorem add_both (a b c d : Int) (w : World) : Calls Try.prog 50 #[.agg #[.int .i64 a, .int .i64 b], .agg #[.int .i64 c, .int .i64 d], .func (.func 52) #[] #[]] w fun e w' => e = .returned (.agg #[.int .i64 (opE Gm.add (a, b) (c, d)).1, .int .i64 (opE Gm.add (a, b) (c, d)).2]) ∧ Below w.heap.size w w' := by
  by_cases hx : Gm.Ok (a, b)
  · by_cases hy : Gm.Ok (c, d)
    · have e : opE Gm.add (a, b) (c, d) = Gm.add (a, b) (c, d) := if_pos ⟨hx, hy⟩
      rw [e]
      obtain ⟨h1, h2, h3, h4⟩ := id hx
      obtain ⟨h5, h6, h7, h8⟩ := id hy
      simp only at h1 h2 h3 h4 h5 h6 h7 h8
      exact both_add a b c d _ _ hx hy (by omega) (by omega) (add1_c a b c d hx hy) w
    · have e : opE Gm.add (a, b) (c, d) = (0, 0) := if_neg (fun h => hy h.2)
      rw [e]
      exact both_no2 a b c d _ (decide_eq_true hx) (decide_eq_false hy) w
  · have e : opE Gm.add (a, b) (c, d) = (0, 0) := if_neg (fun h => hx h.1)
    rw [e]
    exact both_no1 a b c d _ (decide_eq_false hx) w
theorem add_c (a b c d : Int) (w : World) : Calls Try.prog 31 #[.agg #[.int .i64 a, .int .i64 b], .agg #[.int .i64 c, .int .i64 d]] w fun e w' => e = .returned (.agg #[.int .i64 (opE Gm.add (a, b) (c, d)).1, .int .i64 (opE Gm.add (a, b) (c, d)).2]) ∧ Below w.heap.size w w' := by
  have H := Lib.hid (add_both a b c d)
  generalize opE Gm.add (a, b) (c, d) = r at H ⊢
  obtain ⟨r1, r2⟩ := r
  go_enter Try.func31, Try.ntmps31
  go_wp2_with fail
  refine (H.out _).mono ?_
  rintro e w1 ⟨rfl, hb1⟩
  have K0 : Held7 w w.heap.size a b c d (((w.alloc (.cells #[.int .i64 a, .int .i64 b] 23)).alloc (.cells #[.int .i64 c, .int .i64 d] 23)).alloc (.cells #[.int .i64 0, .int .i64 0] 23)) := by
    refine ⟨?_, ?_, ?_, ?_, ⟨.int .i64 0, .int .i64 0, ?_, ?_⟩, ?_, ?_, ?_, rfl, ?_⟩
    all_goals first | (simp; done) | (simp [go_sem]; done) | exact (((Below.refl _ _).alloc (Nat.le_refl _) _).alloc (by simp) _).alloc (by simp; omega) _
  have K1 := K0.step hb1
  have KB := Lib.hid (K1.store (.int .i64 r1) (.int .i64 r2))
  obtain ⟨-, -, -, -, ⟨u5, v5, y6, y7⟩, y8, y9, y10, -⟩ := K1
  clear K0 hb1
  go_wp2
  refine bodyPost_ret (v := .agg #[.int .i64 r1, .int .i64 r2]) ?hr rfl ⟨rfl, KB.out.below⟩
  simp [results, Try.results31, go_sem, y6, y7]
theorem sub1_c (a b c d : Int) (hx : Gm.Ok (a, b)) (hy : Gm.Ok (c, d)) (w : World) : Calls Try.prog 53 #[.complex .f64 (W a) (W b), .complex .f64 (W c) (W d)] w fun e w' => e = .returned (.complex .f64 (W (a - c)) (W (b - d))) ∧ w = w' := by
  obtain ⟨h1, h2, h3, h4⟩ := hx
  obtain ⟨h5, h6, h7, h8⟩ := hy
  simp only at h1 h2 h3 h4 h5 h6 h7 h8
  have hb : cSumBits .sub .f64 (W a) (W b) (W c) (W d) = some (W (a - c), W (b - d)) := by
    unfold cSumBits
    rw [sub_W _ _ (by omega) (by omega) (by omega), Option.bind_some, sub_W _ _ (by omega) (by omega) (by omega)]; rfl
  have hop := fun t w => run_complex_sum (P := Try.prog) w .sub (Or.inr rfl) t .f64 _ _ _ _ _ _ hb
  clear hb
  clear h1 h2 h3 h4 h5 h6 h7 h8
  go_enter Try.func53, Try.ntmps53
  go_wp2_with (simp only [hop])
  all_goals (go_ret; exact ⟨rfl, rfl⟩)
theorem sub_both (a b c d : Int) (w : World) : Calls Try.prog 50 #[.agg #[.int .i64 a, .int .i64 b], .agg #[.int .i64 c, .int .i64 d], .func (.func 53) #[] #[]] w fun e w' => e = .returned (.agg #[.int .i64 (opE Gm.sub (a, b) (c, d)).1, .int .i64 (opE Gm.sub (a, b) (c, d)).2]) ∧ Below w.heap.size w w' := by
  by_cases hx : Gm.Ok (a, b)
  · by_cases hy : Gm.Ok (c, d)
    · have e : opE Gm.sub (a, b) (c, d) = Gm.sub (a, b) (c, d) := if_pos ⟨hx, hy⟩
      rw [e]
      obtain ⟨h1, h2, h3, h4⟩ := id hx
      obtain ⟨h5, h6, h7, h8⟩ := id hy
      simp only at h1 h2 h3 h4 h5 h6 h7 h8
      exact both_sub a b c d _ _ hx hy (by omega) (by omega) (sub1_c a b c d hx hy) w
    · have e : opE Gm.sub (a, b) (c, d) = (0, 0) := if_neg (fun h => hy h.2)
      rw [e]
      exact both_no2 a b c d _ (decide_eq_true hx) (decide_eq_false hy) w
  · have e : opE Gm.sub (a, b) (c, d) = (0, 0) := if_neg (fun h => hx h.1)
    rw [e]
    exact both_no1 a b c d _ (decide_eq_false hx) w
theorem sub_c (a b c d : Int) (w : World) : Calls Try.prog 33 #[.agg #[.int .i64 a, .int .i64 b], .agg #[.int .i64 c, .int .i64 d]] w fun e w' => e = .returned (.agg #[.int .i64 (opE Gm.sub (a, b) (c, d)).1, .int .i64 (opE Gm.sub (a, b) (c, d)).2]) ∧ Below w.heap.size w w' := by
  have H := Lib.hid (sub_both a b c d)
  generalize opE Gm.sub (a, b) (c, d) = r at H ⊢
  obtain ⟨r1, r2⟩ := r
  go_enter Try.func33, Try.ntmps33
  go_wp2_with fail
  refine (H.out _).mono ?_
  rintro e w1 ⟨rfl, hb1⟩
  have K0 : Held7 w w.heap.size a b c d (((w.alloc (.cells #[.int .i64 a, .int .i64 b] 23)).alloc (.cells #[.int .i64 c, .int .i64 d] 23)).alloc (.cells #[.int .i64 0, .int .i64 0] 23)) := by
    refine ⟨?_, ?_, ?_, ?_, ⟨.int .i64 0, .int .i64 0, ?_, ?_⟩, ?_, ?_, ?_, rfl, ?_⟩
    all_goals first | (simp; done) | (simp [go_sem]; done) | exact (((Below.refl _ _).alloc (Nat.le_refl _) _).alloc (by simp) _).alloc (by simp; omega) _
  have K1 := K0.step hb1
  have KB := Lib.hid (K1.store (.int .i64 r1) (.int .i64 r2))
  obtain ⟨-, -, -, -, ⟨u5, v5, y6, y7⟩, y8, y9, y10, -⟩ := K1
  clear K0 hb1
  go_wp2
  refine bodyPost_ret (v := .agg #[.int .i64 r1, .int .i64 r2]) ?hr rfl ⟨rfl, KB.out.below⟩
  simp [results, Try.results33, go_sem, y6, y7]
end Go.Proofs.Ytokkkeepifpbpaa.Fl
