import Derived.Test.YtokkkeepifpbpaaFc
import Derived.ScopeJumps
import Derived.WalkMore
namespace Go.Proofs.Ytokkkeepifpbpaa.Fl
open Flt
open Go.RowKit

theorem wp_skip_seq {P : Program} {a : Act} {w : World} {Q : Exit → Act → World → Prop} {c : Code} (h : c.wp P Q a w) : (Code.skip.seq c).wp P Q a w := wp_seq (wp_skip h)
theorem wp_label_jumps {P : Program} {a : Act} {w : World} {Q : Exit → Act → World → Prop} {c rest : Code} (l : Nat) (J : Act → World → Prop) (μ : Act → World → Nat) (hf : findLabel c l = some (Code.skip.seq rest))
    (pass : ∀ a w, J a w → rest.wp P (Exit.jump l (fun a' w' => J a' w' ∧ μ a' w' < μ a w) Q) a w)
    (first : (∀ a w, J a w → rest.wp P (Exit.jump l J Q) a w) → c.wp P (Exit.jump l J Q) a w) : (Code.scope c).wp P Q a w :=
  wp_scope_jumps l J μ hf (first fun a w hJ => Code.wp_mono (fun e a' w' h => by
    cases e with
    | goto l' => exact ⟨h.1, h.2.1⟩
    | _ => exact h) (pass a w hJ)) (fun a w hJ => wp_skip_seq (pass a w hJ))

/-- a struct of two numbers at a block -/
def Two (W : World) (n : Nat) (x : Gm.E) : Prop := W.cell? ⟨n, 0, none⟩ = some (.int .i64 x.1) ∧ W.cell? ⟨n, 1, none⟩ = some (.int .i64 x.2) ∧ W.frozen? ⟨n, 0, none⟩ = false ∧ W.frozen? ⟨n, 1, none⟩ = false ∧ n < W.heap.size
theorem Two.step {W W' : World} {n : Nat} {x : Gm.E} (h : Two W n x) (hb : Below W.heap.size W W') : Two W' n x := by
  obtain ⟨h1, h2, h3, h4, h5⟩ := h
  obtain ⟨hc, hf⟩ := bcell hb
  have hs := hb.size
  exact ⟨(hc _ _ h5).trans h1, (hc _ _ h5).trans h2, (hf _ _ h5).trans h3, (hf _ _ h5).trans h4, by omega⟩
theorem Two.far {W : World} {n m : Nat} {x : Gm.E} (h : Two W n x) (hne : n ≠ m) (y z : Value) : Two ((W.setCell ⟨m, 0, none⟩ y).setCell ⟨m, 1, none⟩ z) n x := by
  obtain ⟨h1, h2, h3, h4, h5⟩ := h
  have far : ∀ (V : World) (v : Value) (i j : Nat), (V.setCell ⟨m, i, none⟩ v).cell? ⟨n, j, none⟩ = V.cell? ⟨n, j, none⟩ := fun V v i j => World.cell?_setCell_far V _ _ v (fun e => hne e.symm)
  exact ⟨by rw [far, far]; exact h1, by rw [far, far]; exact h2, by simpa using h3, by simpa using h4, by simpa using h5⟩
theorem Two.put {W : World} {n : Nat} {x : Gm.E} (h : Two W n x) (y : Gm.E) : Two ((W.setCell ⟨n, 0, none⟩ (.int .i64 y.1)).setCell ⟨n, 1, none⟩ (.int .i64 y.2)) n y := by
  obtain ⟨h1, h2, h3, h4, h5⟩ := h
  refine ⟨?_, ?_, by simpa using h3, by simpa using h4, by simpa using h5⟩
  · simp [h1, go_sem]
  · simp [h2, go_sem]
theorem opE_mul {x y : Gm.E} (hx : Gm.Ok x) (hy : Gm.Ok y) : opE Gm.mul x y = Gm.mul x y := if_pos ⟨hx, hy⟩
theorem mul_ok_c (x y : Gm.E) (hx : Gm.Ok x) (hy : Gm.Ok y) (w : World) : Calls Try.prog 29 #[.agg #[.int .i64 x.1, .int .i64 x.2], .agg #[.int .i64 y.1, .int .i64 y.2]] w fun e w' => e = .returned (.agg #[.int .i64 (Gm.mul x y).1, .int .i64 (Gm.mul x y).2]) ∧ Below w.heap.size w w' := by
  have h := mul_c x.1 x.2 y.1 y.2 w
  rw [opE_mul hx hy] at h; exact h
theorem bit_one {n : Nat} (hn : n < 18446744073709551616) : bits .and .u64 (n : Int) 1 = ((n % 2 : Nat) : Int) := by
  rw [show (1 : Int) = ((1 : Nat) : Int) from rfl, u64_and_nat n 1 hn (by omega)]
  congr 1
  exact Nat.and_one_is_mod n

/-- what the passes of Pow keep -/
structure PowW (w0 : World) (a b : Int) (m : Nat) (ob : Nat) (n : Nat) (x o : Gm.E) (W : World) : Prop where
  hx : Two W w0.heap.size x
  hr : Two W (w0.heap.size + 1) (0, 0)
  ho : Two W ob o
  hne : w0.heap.size + 1 < ob
  okx : Gm.Ok x
  oko : Gm.Ok o
  hn : n < 18446744073709551616
  fin : Gm.mul o (Gm.pow x n) = Gm.pow (a, b) m
  hb : Below w0.heap.size w0 W
theorem pow_even {x : Gm.E} {n : Nat} (_hx : Gm.Ok x) (h : n % 2 = 0) : Gm.pow (Gm.mul x x) (n / 2) = Gm.pow x n := by
  have e : Gm.pow x (2 * (n / 2)) = Gm.pow (Gm.pow x 2) (n / 2) := Gm.pow_mul x 2 (n / 2)
  rw [show 2 * (n / 2) = n by omega] at e
  rw [e]
  have e2 : Gm.pow x 2 = Gm.mul x x := by
    unfold Gm.pow Gm.mul; rw [show Gm.gpow x 2 = Gm.gmul (Gm.gmul (1, 0) x) x from rfl, Gm.gone_mul]
  rw [e2]
theorem pow_odd {x : Gm.E} {n : Nat} (hx : Gm.Ok x) (h : n % 2 = 1) : Gm.mul x (Gm.pow (Gm.mul x x) (n / 2)) = Gm.pow x n := by
  have e := pow_even (n := n - 1) hx (by omega)
  rw [show (n - 1) / 2 = n / 2 by omega] at e
  rw [e, Gm.mul_comm]
  have := Gm.pow_add x (n - 1) 1
  rw [show n - 1 + 1 = n by omega] at this
  rw [this]
  congr 1
  unfold Gm.pow; rw [Gm.gpow_one, Gm.red_of_ok hx]

set_option maxHeartbeats 1000000 in
theorem pow_c (a b : Int) (m : Nat) (hx : Gm.Ok (a, b)) (hm : m < 18446744073709551616) (w : World) : Calls Try.prog 22 #[.agg #[.int .i64 a, .int .i64 b], .int .u64 m] w fun e w' => e = .returned (.agg #[.int .i64 (Gm.pow (a, b) m).1, .int .i64 (Gm.pow (a, b) m).2]) ∧ Below w.heap.size w w' := by
  have m1 := fun w => may_c a b w
  rw [show mayB a b = true from decide_eq_true hx] at m1
  have M1 := Lib.hid m1
  have HM := Lib.hid hm
  have HX := Lib.hid hx
  clear m1 hm hx
  go_enter Try.func22, Try.ntmps22
  go_wp2_with fail
  refine wp_label_jumps 0 (fun a' w' => ∃ (n ob : Nat) (x o : Gm.E) (u6 u7 u8 u9 u10 u11 u12 u13 u14 u15 u16 u17 u18 u19 u20 u21 u22 u23 u24 : Value),
    a' = { tmps := #[.agg #[.int .i64 a, .int .i64 b], .int .u64 n, .pointer (some ⟨w.heap.size, 0, none⟩), undef, .pointer (some ⟨w.heap.size + 1, 0, none⟩), .pointer (some ⟨ob, 0, none⟩), u6, u7, u8, u9, u10, u11, u12, u13, u14, u15, u16, u17, u18, u19, u20, u21, u22, u23, u24], defers := [] } ∧ PowW w a b m ob n x o w')
    (fun a' _ => (intOf (a'.tmps.getD 1 undef)).toNat) rfl ?pass ?first
  case first =>
    intro hrest
    go_wp2_with fail
    refine (M1.out _).mono ?_
    rintro e w1 ⟨rfl, hb1⟩
    go_wp2_with fail
    go_step3
    simp only [Exit.then]
    refine (by assumption : ∀ (a : Act) (w : World), Code.wp Try.prog _ _ a w → _ ) _ _ (hrest _ _ ?_)
    have T0 : Two ((w.alloc (.cells #[.int .i64 a, .int .i64 b] 23)).alloc (.cells #[.int .i64 0, .int .i64 0] 23)) w.heap.size (a, b) := by
      refine ⟨?_, ?_, ?_, ?_, ?_⟩ <;> first | (simp; done) | (simp [go_sem]; done) | (simp; omega)
    have T1 : Two ((w.alloc (.cells #[.int .i64 a, .int .i64 b] 23)).alloc (.cells #[.int .i64 0, .int .i64 0] 23)) (w.heap.size + 1) (0, 0) := by
      refine ⟨?_, ?_, ?_, ?_, ?_⟩ <;> first | (simp; done) | (simp [go_sem]; done) | (simp; omega)
    have hs1 := hb1.size
    have hbb : Below w.heap.size w w1 := (((Below.refl _ _).alloc (Nat.le_refl _) _).alloc (by simp) _).trans (hb1.mono (by simp; omega))
    have hal : Below w1.heap.size w1 (w1.alloc (.cells #[.int .i64 1, .int .i64 0] 23)) := (Below.refl _ _).alloc (Nat.le_refl _) _
    refine ⟨m, w1.heap.size, (a, b), (1, 0), _, _, _, _, _, _, _, _, _, _, _, _, _, _, _, _, _, _, _, rfl, (T0.step hb1).step hal, (T1.step hb1).step hal, ?_, ?_, HX.out, Gm.one_ok, HM.out, Gm.one_mul (Gm.pow_ok _ _), hbb.trans (hal.mono (hbb.size))⟩
    · refine ⟨?_, ?_, ?_, ?_, ?_⟩ <;> first | (simp; done) | (simp [go_sem]; done)
    · simp at hs1; omega
  case pass =>
    rintro a' w' ⟨n, ob, x, o, u6, u7, u8, u9, u10, u11, u12, u13, u14, u15, u16, u17, u18, u19, u20, u21, u22, u23, u24, rfl, H⟩
    obtain ⟨hx, hr, ho, hne, okx, oko, hn, fin, hb⟩ := H
    have HT := Lib.hid hx
    have HR := Lib.hid hr
    have HO := Lib.hid ho
    obtain ⟨r1, r2, r3, r4, r5⟩ := hr
    obtain ⟨o1, o2, o3, o4, o5⟩ := ho
    obtain ⟨x1, x2, x3, x4, x5⟩ := hx
    have ne1 : ob ≠ w.heap.size := by omega
    have ne2 : ob ≠ w.heap.size + 1 := by omega
    by_cases h0 : n = 0
    · subst h0
      have hfin : o = Gm.pow (a, b) m := by
        rw [← fin]; exact (Gm.mul_one oko).symm
      have hB : Below w.heap.size w ((w'.setCell ⟨w.heap.size + 1, 0, none⟩ (.int .i64 o.1)).setCell ⟨w.heap.size + 1, 1, none⟩ (.int .i64 o.2)) := (hb.setCell (by simp) _).setCell (by simp) _
      have HF := Lib.hid hfin
      have HB := Lib.hid hB
      clear hfin hB fin hb hn
      go_wp2
      simp only [Exit.jump]
      refine bodyPost_ret (v := .agg #[.int .i64 o.1, .int .i64 o.2]) ?_ rfl ⟨by rw [HF.out], HB.out⟩
      simp [results, Try.results22, go_sem, r1, r2]
    · have hn0 : ((n : Int) == 0) = false := by rw [beq_eq_false_iff_ne]; omega
      have hb1' := bit_one hn
      have M2 := Lib.hid (mul_ok_c x x okx okx)
      have HN := Lib.hid hn
      have hlt : n / 2 < n := by omega
      rcases Nat.mod_two_eq_zero_or_one n with h2 | h2
      · have hfin : Gm.mul o (Gm.pow (Gm.mul x x) (n / 2)) = Gm.pow (a, b) m := by rw [pow_even okx h2]; exact fin
        rw [h2] at hb1'
        have HF := Lib.hid hfin
        have HB := Lib.hid hb
        have HL := Lib.hid hlt
        have OX := Lib.hid okx
        have OO := Lib.hid oko
        clear hfin hb fin hn h2 hlt h0 okx oko
        go_wp2_with fail
        refine (M2.out _).mono ?_
        rintro e w2 ⟨rfl, hb2⟩
        have T2 := HT.out.step hb2
        have R2 := Lib.hid ((HR.out.step hb2).far (m := w.heap.size) (by omega) (.int .i64 (Gm.mul x x).1) (.int .i64 (Gm.mul x x).2))
        have O2 := Lib.hid ((HO.out.step hb2).far (m := w.heap.size) ne1 (.int .i64 (Gm.mul x x).1) (.int .i64 (Gm.mul x x).2))
        have P2 := Lib.hid (T2.put (Gm.mul x x))
        have B2 := Lib.hid (((HB.out.trans (hb2.mono HB.out.size)).setCell (p := ⟨w.heap.size, 0, none⟩) (by simp) (.int .i64 (Gm.mul x x).1)).setCell (p := ⟨w.heap.size, 1, none⟩) (by simp) (.int .i64 (Gm.mul x x).2))
        obtain ⟨z1, z2, z3, z4, z5⟩ := T2
        clear hb2
        go_wp2
        go_step3
        have ed : (n : Int) / 2 = ((n / 2 : Nat) : Int) := by omega
        rw [ed]
        refine ⟨rfl, ⟨n / 2, ob, Gm.mul x x, o, _, _, _, _, _, _, _, _, _, _, _, _, _, _, _, _, _, _, _, rfl, P2.out, R2.out, O2.out, hne, Gm.mul_ok _ _, OO.out, by have := HN.out; omega, HF.out, B2.out⟩, ?_⟩
        have := HL.out
        simp only [intOf, Array.getD_eq_getD_getElem?, List.getElem?_toArray, List.getElem?_cons_succ, List.getElem?_cons_zero, Option.getD_some, Int.toNat_natCast]
        exact this
      · have hfin : Gm.mul (Gm.mul o x) (Gm.pow (Gm.mul x x) (n / 2)) = Gm.pow (a, b) m := by rw [Gm.mul_assoc, pow_odd okx h2]; exact fin
        rw [h2] at hb1'
        have M3 := Lib.hid (mul_ok_c o x oko okx)
        have HF := Lib.hid hfin
        have HB := Lib.hid hb
        have HL := Lib.hid hlt
        clear hfin hb fin hn h2 hlt h0 okx oko
        go_wp2_with fail
        refine (M3.out _).mono ?_
        rintro e w2 ⟨rfl, hb2⟩
        have U2 := HO.out.step hb2
        have R2 := Lib.hid ((HR.out.step hb2).far (m := ob) (Ne.symm ne2) (.int .i64 (Gm.mul o x).1) (.int .i64 (Gm.mul o x).2))
        have T2 := Lib.hid ((HT.out.step hb2).far (m := ob) (Ne.symm ne1) (.int .i64 (Gm.mul o x).1) (.int .i64 (Gm.mul o x).2))
        have O2 := Lib.hid (U2.put (Gm.mul o x))
        have B2 := Lib.hid (((HB.out.trans (hb2.mono HB.out.size)).setCell (p := ⟨ob, 0, none⟩) (by simp; omega) (.int .i64 (Gm.mul o x).1)).setCell (p := ⟨ob, 1, none⟩) (by simp; omega) (.int .i64 (Gm.mul o x).2))
        obtain ⟨z1, z2, z3, z4, z5⟩ := U2
        obtain ⟨y1, y2, y3, y4, y5⟩ := T2.out
        clear hb2
        go_wp2_with fail
        refine (M2.out _).mono ?_
        rintro e w3 ⟨rfl, hb3⟩
        have T3 := T2.out.step hb3
        have R3 := Lib.hid ((R2.out.step hb3).far (m := w.heap.size) (by omega) (.int .i64 (Gm.mul x x).1) (.int .i64 (Gm.mul x x).2))
        have O3 := Lib.hid ((O2.out.step hb3).far (m := w.heap.size) ne1 (.int .i64 (Gm.mul x x).1) (.int .i64 (Gm.mul x x).2))
        have P3 := Lib.hid (T3.put (Gm.mul x x))
        have B3 := Lib.hid (((B2.out.trans (hb3.mono B2.out.size)).setCell (p := ⟨w.heap.size, 0, none⟩) (by simp) (.int .i64 (Gm.mul x x).1)).setCell (p := ⟨w.heap.size, 1, none⟩) (by simp) (.int .i64 (Gm.mul x x).2))
        obtain ⟨q1, q2, q3, q4, q5⟩ := T3
        clear hb3
        go_wp2
        go_step3
        have ed : (n : Int) / 2 = ((n / 2 : Nat) : Int) := by omega
        rw [ed]
        refine ⟨rfl, ⟨n / 2, ob, Gm.mul x x, Gm.mul o x, _, _, _, _, _, _, _, _, _, _, _, _, _, _, _, _, _, _, _, rfl, P3.out, R3.out, O3.out, hne, Gm.mul_ok _ _, Gm.mul_ok _ _, by have := HN.out; omega, HF.out, B3.out⟩, ?_⟩
        have := HL.out
        simp only [intOf, Array.getD_eq_getD_getElem?, List.getElem?_toArray, List.getElem?_cons_succ, List.getElem?_cons_zero, Option.getD_some, Int.toNat_natCast]
        exact this
theorem pow_no (a b : Int) (m : Nat) (hx : mayB a b = false) (w : World) : Calls Try.prog 22 #[.agg #[.int .i64 a, .int .i64 b], .int .u64 m] w fun e w' => e = .returned (.agg #[.int .i64 0, .int .i64 0]) ∧ Below w.heap.size w w' := by
  have m1 := fun w => may_c a b w
  rw [hx] at m1
  have M1 := Lib.hid m1
  clear m1 hx
  go_enter Try.func22, Try.ntmps22
  go_wp2_with fail
  go_step3
  go_wp2_with fail
  refine (M1.out _).mono ?_
  rintro e w1 ⟨rfl, hb1⟩
  have T1 : Two ((w.alloc (.cells #[.int .i64 a, .int .i64 b] 23)).alloc (.cells #[.int .i64 0, .int .i64 0] 23)) (w.heap.size + 1) (0, 0) := by
    refine ⟨?_, ?_, ?_, ?_, ?_⟩ <;> first | (simp; done) | (simp [go_sem]; done) | (simp; omega)
  have T2 := T1.step hb1
  have B1 := Lib.hid (((((Below.refl _ _).alloc (Nat.le_refl _) _).alloc (by simp) _).trans (hb1.mono (by simp; omega)) : Below w.heap.size w w1).setCell (p := ⟨w.heap.size + 1, 0, none⟩) (by simp) (.int .i64 0) |>.setCell (p := ⟨w.heap.size + 1, 1, none⟩) (by simp) (.int .i64 0))
  obtain ⟨z1, z2, z3, z4, z5⟩ := T2
  clear T1 hb1
  go_wp2
  try simp only [Exit.noGoto]
  refine bodyPost_ret (v := .agg #[.int .i64 0, .int .i64 0]) ?_ rfl ⟨rfl, B1.out⟩
  simp [results, Try.results22, go_sem, z1, z2]
def powE (x : Gm.E) (m : Nat) : Gm.E := if Gm.Ok x then Gm.pow x m else (0, 0)
theorem powE_c (a b : Int) (m : Nat) (hm : m < 18446744073709551616) (w : World) : Calls Try.prog 22 #[.agg #[.int .i64 a, .int .i64 b], .int .u64 m] w fun e w' => e = .returned (.agg #[.int .i64 (powE (a, b) m).1, .int .i64 (powE (a, b) m).2]) ∧ Below w.heap.size w w' := by
  unfold powE
  by_cases hx : Gm.Ok (a, b)
  · rw [if_pos hx]; exact pow_c a b m hx hm w
  · rw [if_neg hx]; exact pow_no a b m (decide_eq_false hx) w
def normE (x : Gm.E) : Int := if Gm.Ok x then Gm.norm x else 0
theorem norm_c (a b : Int) (w : World) : Calls Try.prog 36 #[.agg #[.int .i64 a, .int .i64 b]] w fun e w' => e = .returned (.int .i64 (normE (a, b))) ∧ Below w.heap.size w w' := by
  have T0 : Two (w.alloc (.cells #[.int .i64 a, .int .i64 b] 23)) w.heap.size (a, b) := by
    refine ⟨?_, ?_, ?_, ?_, ?_⟩ <;> first | (simp; done) | (simp [go_sem]; done) | (simp; omega)
  have TT := Lib.hid T0
  have HB0 : Hid (Below w.heap.size w (w.alloc (.cells #[.int .i64 a, .int .i64 b] 23))) := Lib.hid ((Below.refl _ _).alloc (Nat.le_refl _) _)
  clear T0
  unfold normE
  by_cases hx : Gm.Ok (a, b)
  · rw [if_pos hx]
    obtain ⟨h1, h2, h3, h4⟩ := id hx
    simp only at h1 h2 h3 h4
    have bd : ∀ x : Int, 0 ≤ x ∧ x < 10007 → 0 ≤ x * x ∧ x * x < 100140049 := fun x hx => ⟨Int.mul_nonneg hx.1 hx.1, Int.lt_of_le_of_lt (Int.mul_le_mul (show x ≤ 10006 by omega) (show x ≤ 10006 by omega) hx.1 (by omega)) (by omega)⟩
    have q1 := bd a ⟨h1, h2⟩
    have q2 := bd b ⟨h3, h4⟩
    have m1 := fun w => may_c a b w
    rw [show mayB a b = true from decide_eq_true hx] at m1
    have M1 := Lib.hid m1
    have A1 := Lib.hid (as_c a b (by omega) (by omega))
    have P1 := Lib.hid (part_c (a * a + b * b) (by omega))
    have e1 := fun t w => run_float_arith (P := Try.prog) w .mul t .f64 (W a) (W a) _ (mul_W a a h1 h1 (by omega) (by omega) (by omega))
    have e2 := fun t w => run_float_arith (P := Try.prog) w .mul t .f64 (W b) (W b) _ (mul_W b b h3 h3 (by omega) (by omega) (by omega))
    have e3 := fun t w => run_float_arith (P := Try.prog) w .add t .f64 (W (a * a)) (W (b * b)) _ (add_W (a * a) (b * b) (by omega) (by omega) (by omega))
    clear bd q1 q2 h1 h2 h3 h4 hx m1
    go_enter Try.func36, Try.ntmps36
    go_wp2_with fail
    refine (M1.out _).mono ?_
    rintro e w1 ⟨rfl, hb1⟩
    have T1 := Lib.hid (TT.out.step hb1)
    have B1 := Lib.hid (HB0.out.trans (hb1.mono HB0.out.size))
    obtain ⟨z1, z2, z3, z4, z5⟩ := T1.out
    clear hb1
    go_wp2_with fail
    refine (A1.out _).mono ?_
    rintro e w2 ⟨rfl, hb2⟩
    have B2 := Lib.hid (B1.out.trans (hb2.mono B1.out.size))
    clear hb2
    go_wp2_with fail
    refine (P1.out _).mono ?_
    rintro e w3 ⟨rfl, rfl⟩
    go_wp2
    go_ret
    exact ⟨rfl, B2.out⟩
  · rw [if_neg hx]
    have m1 := fun w => may_c a b w
    rw [show mayB a b = false from decide_eq_false hx] at m1
    have M1 := Lib.hid m1
    clear m1 hx
    go_enter Try.func36, Try.ntmps36
    go_wp2_with fail
    refine (M1.out _).mono ?_
    rintro e w1 ⟨rfl, hb1⟩
    have B1 := Lib.hid (HB0.out.trans (hb1.mono HB0.out.size))
    clear hb1
    go_wp2
    go_ret
    exact ⟨rfl, B1.out⟩
end Go.Proofs.Ytokkkeepifpbpaa.Fl
