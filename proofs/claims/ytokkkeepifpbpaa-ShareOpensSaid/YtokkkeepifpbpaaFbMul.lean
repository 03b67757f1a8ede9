import Derived.Test.YtokkkeepifpbpaaFg
namespace Go.Proofs.Ytokkkeepifpbpaa.Fl
open Flt
open Go.RowKit

set_option maxHeartbeats 2000000 in
theorem both_mul (a b c d p q : Int) (hx : Gm.Ok (a, b)) (hy : Gm.Ok (c, d)) (hp : p.natAbs < 2 ^ 52) (hq : q.natAbs < 2 ^ 52)
    (H : ∀ w, Calls Try.prog 51 #[.complex .f64 (W a) (W b), .complex .f64 (W c) (W d)] w fun e w' => e = .returned (.complex .f64 (W p) (W q)) ∧ w = w') (w : World) :
    Calls Try.prog 50 #[.agg #[.int .i64 a, .int .i64 b], .agg #[.int .i64 c, .int .i64 d], .func (.func 51) #[] #[]] w fun e w' => e = .returned (.agg #[.int .i64 (p % 10007), .int .i64 (q % 10007)]) ∧ Below w.heap.size w w' := by
  have m1 := fun w => may_c a b w
  have m2 := fun w => may_c c d w
  rw [show mayB a b = true from decide_eq_true hx] at m1
  rw [show mayB c d = true from decide_eq_true hy] at m2
  have A1 := Lib.hid (as_c a b (by unfold Gm.Ok at hx; omega) (by unfold Gm.Ok at hx; omega))
  have A2 := Lib.hid (as_c c d (by unfold Gm.Ok at hy; omega) (by unfold Gm.Ok at hy; omega))
  have A3 := Lib.hid (from_c p q hp hq)
  have M1 := Lib.hid m1
  have M2 := Lib.hid m2
  have HH := Lib.hid H
  clear hx hy hp hq H m1 m2
  go_enter Try.func50, Try.ntmps50
  go_wp2_with fail
  refine (M1.out _).mono ?_
  rintro e w1 ⟨rfl, hb1⟩
  have K0 : Held7 w w.heap.size a b c d (((w.alloc (.cells #[.int .i64 a, .int .i64 b] 23)).alloc (.cells #[.int .i64 c, .int .i64 d] 23)).alloc (.cells #[.int .i64 0, .int .i64 0] 23)) := by
    refine ⟨?_, ?_, ?_, ?_, ⟨.int .i64 0, .int .i64 0, ?_, ?_⟩, ?_, ?_, ?_, rfl, ?_⟩
    all_goals first | (simp; done) | (simp [go_sem]; done) | exact (((Below.refl _ _).alloc (Nat.le_refl _) _).alloc (by simp) _).alloc (by simp; omega) _
  have K1 := Lib.hid (K0.step hb1)
  clear K0 hb1
  obtain ⟨x1, x2, x3, x4, x5⟩ := K1.out
  clear x5
  go_wp2_with fail
  refine (M2.out _).mono ?_
  rintro e w2 ⟨rfl, hb2⟩
  have K2 := Lib.hid (K1.out.step hb2)
  clear hb2 x1 x2 x3 x4 K1
  obtain ⟨x1, x2, x3, x4, x5⟩ := K2.out
  clear x5
  go_wp2_with fail
  have K3 : Held7 w w.heap.size a b c d w2 := K2.out
  clear K2
  go_region_held3 (fun w' => w'.cell? ⟨w.heap.size, 0, none⟩ = some (.int .i64 a) ∧ w'.cell? ⟨w.heap.size, 1, none⟩ = some (.int .i64 b) ∧ w'.cell? ⟨w.heap.size + 1, 0, none⟩ = some (.int .i64 c) ∧ w'.cell? ⟨w.heap.size + 1, 1, none⟩ = some (.int .i64 d) ∧ Held7 w w.heap.size a b c d w')
    (first | exact (K3.drew').all | (go_split_ands; refine Held7.all ?_; assumption) | (go_split_ands; refine Held7.all (Held7.store ?_ _ _); assumption) | (go_split_ands; exact (Held7.step (by assumption) (by assumption)).all))
    (first | (go_at_call_of 54 (Value.agg #[.int .i64 a, .int .i64 b]); refine (A1.out _).mono ?_; rintro e w3 ⟨rfl, hb3⟩) | (go_at_call_of 54 (Value.agg #[.int .i64 c, .int .i64 d]); refine (A2.out _).mono ?_; rintro e w4 ⟨rfl, hb4⟩) | (go_at_call 63; refine (A3.out _).mono ?_; rintro e w5 ⟨rfl, hb5⟩; go_split_ands; have y5 := Held7.step (by assumption) hb5; obtain ⟨-, -, -, -, ⟨u5, v5, y6, y7⟩, y8, y9, y10, -⟩ := y5) | (refine (HH.out _).mono ?_; rintro e w6 ⟨rfl, rfl⟩))
  go_wp2
  go_split_ands
  refine bodyPost_ret (v := .agg #[.int .i64 (p % 10007), .int .i64 (q % 10007)]) ?hr rfl ⟨rfl, Held7.below (by assumption)⟩
  simp [results, Try.results50, go_sem, y6, y7]
end Go.Proofs.Ytokkkeepifpbpaa.Fl
