import Derived.Test.YtokkkeepifpbpaaFm
import Derived.Test.YtokkkeepifpbpaaGm
import Derived.Below
import Derived.Laws.ComplexArith
import Derived.Deep.RegionHeld3
namespace Go.Proofs.Ytokkkeepifpbpaa.Fl
open Flt
open Go.RowKit

theorem bcell {W w1 : World} (hb : Below W.heap.size W w1) : (∀ b o, b < W.heap.size → w1.cell? ⟨b, o, none⟩ = W.cell? ⟨b, o, none⟩) ∧ (∀ b o, b < W.heap.size → w1.frozen? ⟨b, o, none⟩ = W.frozen? ⟨b, o, none⟩) :=
  ⟨fun b o h => hb.cell (p := ⟨b, o, none⟩) h, fun b o h => hb.frozen (p := ⟨b, o, none⟩) h⟩

def mayB (a b : Int) : Bool := decide (Gm.Ok (a, b))
theorem may_c (a b : Int) (w : World) : Calls Try.prog 28 #[.agg #[.int .i64 a, .int .i64 b]] w fun e w' => e = .returned (.bool (mayB a b)) ∧ Below w.heap.size w w' := by
  by_cases h1 : 0 ≤ a
  · by_cases h2 : a < 10007
    · by_cases h3 : 0 ≤ b
      · by_cases h4 : b < 10007
        · have e : mayB a b = true := decide_eq_true ⟨h1, h2, h3, h4⟩
          rw [e]
          clear e
          have d1 : decide (a ≥ 0) = true := decide_eq_true h1
          have d2 : decide (a < 10007) = true := decide_eq_true h2
          have d3 : decide (b ≥ 0) = true := decide_eq_true h3
          have d4 : decide (b < 10007) = true := decide_eq_true h4
          go_enter Try.func28, Try.ntmps28
          go_wp2
          go_ret
          exact ⟨rfl, (Below.refl _ _).alloc (Nat.le_refl _) _⟩
        · have e : mayB a b = false := decide_eq_false (fun h => h4 h.2.2.2)
          rw [e]
          clear e
          have d1 : decide (a ≥ 0) = true := decide_eq_true h1
          have d2 : decide (a < 10007) = true := decide_eq_true h2
          have d3 : decide (b ≥ 0) = true := decide_eq_true h3
          have d4 : decide (b < 10007) = false := decide_eq_false h4
          go_enter Try.func28, Try.ntmps28
          go_wp2
          go_ret
          exact ⟨rfl, (Below.refl _ _).alloc (Nat.le_refl _) _⟩
      · have e : mayB a b = false := decide_eq_false (fun h => h3 h.2.2.1)
        rw [e]
        clear e
        have d1 : decide (a ≥ 0) = true := decide_eq_true h1
        have d2 : decide (a < 10007) = true := decide_eq_true h2
        have d3 : decide (b ≥ 0) = false := decide_eq_false h3
        go_enter Try.func28, Try.ntmps28
        go_wp2
        go_ret
        exact ⟨rfl, (Below.refl _ _).alloc (Nat.le_refl _) _⟩
    · have e : mayB a b = false := decide_eq_false (fun h => h2 h.2.1)
      rw [e]
      clear e
      have d1 : decide (a ≥ 0) = true := decide_eq_true h1
      have d2 : decide (a < 10007) = false := decide_eq_false h2
      go_enter Try.func28, Try.ntmps28
      go_wp2
      go_ret
      exact ⟨rfl, (Below.refl _ _).alloc (Nat.le_refl _) _⟩
  · have e : mayB a b = false := decide_eq_false (fun h => h1 h.1)
    rw [e]
    clear e
    have d1 : decide (a ≥ 0) = false := decide_eq_false h1
    go_enter Try.func28, Try.ntmps28
    go_wp2
    go_ret
    exact ⟨rfl, (Below.refl _ _).alloc (Nat.le_refl _) _⟩
theorem as_c (a b : Int) (ha : a.natAbs < 2 ^ 53) (hb : b.natAbs < 2 ^ 53) (w : World) : Calls Try.prog 54 #[.agg #[.int .i64 a, .int .i64 b]] w fun e w' => e = .returned (.complex .f64 (W a) (W b)) ∧ Below w.heap.size w w' := by
  have h1 := ofInt_W a ha
  have h2 := ofInt_W b hb
  clear ha hb
  go_enter Try.func54, Try.ntmps54
  go_wp2
  go_ret
  exact ⟨rfl, (Below.refl _ _).alloc (Nat.le_refl _) _⟩
theorem from_c (p q : Int) (hp : p.natAbs < 2 ^ 52) (hq : q.natAbs < 2 ^ 52) (w : World) : Calls Try.prog 63 #[.complex .f64 (W p) (W q)] w fun e w' => e = .returned (.agg #[.int .i64 (p % 10007), .int .i64 (q % 10007)]) ∧ Below w.heap.size w w' := by
  have H1 := Lib.hid (part_c p hp)
  have H2 := Lib.hid (part_c q hq)
  clear hp hq
  go_enter Try.func63, Try.ntmps63
  go_wp2_with fail
  refine (H1.out _).mono ?_
  rintro e w' ⟨rfl, rfl⟩
  go_wp2_with fail
  refine (H2.out _).mono ?_
  rintro e w' ⟨rfl, rfl⟩
  go_wp2
  refine bodyPost_ret (v := .agg #[.int .i64 (p % 10007), .int .i64 (q % 10007)]) (by simp [results, Try.results63, go_sem]) rfl ⟨rfl, (Below.refl _ _).alloc (Nat.le_refl _) _⟩
theorem mul_bits (a b c d : Int) (ha : 0 ≤ a ∧ a < 10007) (hb : 0 ≤ b ∧ b < 10007) (hc : 0 ≤ c ∧ c < 10007) (hd : 0 ≤ d ∧ d < 10007) : cMulBits (W a) (W b) (W c) (W d) = some (W (a * c - b * d), W (a * d + b * c)) := by
  have bd : ∀ x y : Int, 0 ≤ x ∧ x < 10007 → 0 ≤ y ∧ y < 10007 → 0 ≤ x * y ∧ x * y < 100140049 := by
    intro x y hx hy
    exact ⟨Int.mul_nonneg hx.1 hy.1, Int.lt_of_le_of_lt (Int.mul_le_mul (show x ≤ 10006 by omega) (show y ≤ 10006 by omega) hy.1 (by omega)) (by omega)⟩
  have h1 := bd a c ha hc
  have h2 := bd b d hb hd
  have h3 := bd a d ha hd
  have h4 := bd b c hb hc
  unfold cMulBits
  rw [mul_W a c ha.1 hc.1 (by omega) (by omega) (by omega), Option.bind_some, mul_W b d hb.1 hd.1 (by omega) (by omega) (by omega), Option.bind_some, sub_W _ _ (by omega) (by omega) (by omega), Option.bind_some, mul_W a d ha.1 hd.1 (by omega) (by omega) (by omega), Option.bind_some, mul_W b c hb.1 hc.1 (by omega) (by omega) (by omega), Option.bind_some, add_W _ _ (by omega) (by omega) (by omega)]
  rfl
/-- what the region's loads and its store ask, from one world to the next -/
def Held7 (w0 : World) (n : Nat) (a b c d : Int) (W : World) : Prop :=
  W.cell? ⟨n, 0, none⟩ = some (.int .i64 a) ∧ W.cell? ⟨n, 1, none⟩ = some (.int .i64 b) ∧ W.cell? ⟨n + 1, 0, none⟩ = some (.int .i64 c) ∧ W.cell? ⟨n + 1, 1, none⟩ = some (.int .i64 d) ∧
  (∃ u v : Value, W.cell? ⟨n + 1 + 1, 0, none⟩ = some u ∧ W.cell? ⟨n + 1 + 1, 1, none⟩ = some v) ∧ W.frozen? ⟨n + 1 + 1, 0, none⟩ = false ∧ W.frozen? ⟨n + 1 + 1, 1, none⟩ = false ∧ n + 1 + 1 < W.heap.size ∧ w0.heap.size = n ∧ Below w0.heap.size w0 W
theorem Held7.step {w0 : World} {n : Nat} {a b c d : Int} {W W' : World} (h : Held7 w0 n a b c d W) (hb : Below W.heap.size W W') : Held7 w0 n a b c d W' := by
  obtain ⟨h1, h2, h3, h4, ⟨u, v, h5, h6⟩, h7, h8, h9, h10, h11⟩ := h
  obtain ⟨hc, hf⟩ := bcell hb
  have hs := hb.size
  refine ⟨(hc _ _ (by omega)).trans h1, (hc _ _ (by omega)).trans h2, (hc _ _ (by omega)).trans h3, (hc _ _ (by omega)).trans h4, ⟨u, v, (hc _ _ h9).trans h5, (hc _ _ h9).trans h6⟩, (hf _ _ h9).trans h7, (hf _ _ h9).trans h8, by omega, h10, h11.trans (hb.mono (by omega))⟩
theorem Held7.drew' {w0 : World} {n : Nat} {a b c d : Int} {W : World} (h : Held7 w0 n a b c d W) : Held7 w0 n a b c d W.drew := h.step (Below.refl _ _).drew
theorem Held7.all {w0 : World} {n : Nat} {a b c d : Int} {W : World} (h : Held7 w0 n a b c d W) : W.cell? ⟨n, 0, none⟩ = some (.int .i64 a) ∧ W.cell? ⟨n, 1, none⟩ = some (.int .i64 b) ∧ W.cell? ⟨n + 1, 0, none⟩ = some (.int .i64 c) ∧ W.cell? ⟨n + 1, 1, none⟩ = some (.int .i64 d) ∧ Held7 w0 n a b c d W :=
  ⟨h.1, h.2.1, h.2.2.1, h.2.2.2.1, h⟩
theorem Held7.set {w0 : World} {n : Nat} {a b c d : Int} {W : World} (h : Held7 w0 n a b c d W) (x : Value) (o : Nat) : Held7 w0 n a b c d (W.setCell ⟨n + 1 + 1, o, none⟩ x) := by
  obtain ⟨h1, h2, h3, h4, ⟨u, v, h5, h6⟩, h7, h8, h9, h10, h11⟩ := h
  have far : ∀ (q : Addr), q.block ≠ n + 1 + 1 → (W.setCell ⟨n + 1 + 1, o, none⟩ x).cell? q = W.cell? q := fun q hq => World.cell?_setCell_far W _ q x (fun e => hq e.symm)
  have fz : ∀ q : Addr, (W.setCell ⟨n + 1 + 1, o, none⟩ x).frozen? q = W.frozen? q := fun q => by simp
  have sz : (W.setCell ⟨n + 1 + 1, o, none⟩ x).heap.size = W.heap.size := by simp
  have some1 : ∀ (k : Nat) (z : Value), W.cell? ⟨n + 1 + 1, k, none⟩ = some z → ∃ y, (W.setCell ⟨n + 1 + 1, o, none⟩ x).cell? ⟨n + 1 + 1, k, none⟩ = some y := fun k z hz => by
    obtain ⟨y, hy⟩ := cell?_setCell_some (w := W) (p := ⟨n + 1 + 1, o, none⟩) (x := x) (q := ⟨n + 1 + 1, k, none⟩) (v := z) hz
    exact ⟨y, hy⟩
  obtain ⟨y1, q1⟩ := some1 0 u h5
  obtain ⟨y2, q2⟩ := some1 1 v h6
  exact ⟨(far _ (by simp; omega)).trans h1, (far _ (by simp; omega)).trans h2, (far _ (by simp)).trans h3, (far _ (by simp)).trans h4, ⟨y1, y2, q1, q2⟩, (fz _).trans h7, (fz _).trans h8, by rw [sz]; exact h9, h10, h11.setCell (by rw [h10]; simp; omega) _⟩
theorem Held7.store {w0 : World} {n : Nat} {a b c d : Int} {W : World} (h : Held7 w0 n a b c d W) (x y : Value) : Held7 w0 n a b c d ((W.setCell ⟨n + 1 + 1, 0, none⟩ x).setCell ⟨n + 1 + 1, 1, none⟩ y) :=
  (h.set x 0).set y 1
theorem Held7.below {w0 : World} {n : Nat} {a b c d : Int} {W : World} (h : Held7 w0 n a b c d W) : Below w0.heap.size w0 W := h.2.2.2.2.2.2.2.2.2
end Go.Proofs.Ytokkkeepifpbpaa.Fl
