-- written by a program of this session (pp.py), out of the kit's print and this session's contracts
import Derived.Test.YtopijobdblfhoaaGreatPTuskAsksx0
import Derived.Test.YtopijobdblfhoaaGreatPTuskAsksx6
import Derived.Test.YtopijobdblfhoaaGreatVTuskAsksPi
namespace Go.Proofs.YtopijobdblfhoaaGreat.PTuskAsks
open Go.RowKit Go.Proofs.YtopijobdblfhoaaGreatW.PrintWords Go.Proofs.YtopijobdblfhoaaGreatW.PrintLast Go.Proofs.YtopijobdblfhoaaGreatW.PrintMore
set_option linter.unusedVariables false
set_option linter.unusedSimpArgs false

def Ge.f (a0_0 : Int) (a0_1 : Int) (a0 : Int) (m0 : Int) : Option (Int × Int) := (F1.f a0_0 a0_1).bind fun n0 => ((F1.f a0 m0).bind fun o0 => (if n0 = true then (if o0 = true then (some (Int.tmod (wrap64 (a0_0 + a0)) 10007, Int.tmod (wrap64 (a0_1 + m0)) 10007)) else (some (0, 0))) else (some (0, 0))))
set_option maxHeartbeats 8000000 in
set_option maxRecDepth 100000 in
theorem Ge.calls (a0_0 : Int) (a0_1 : Int) (C0 : Int) (A0 : Int) (r1 : Int) (r2 : Int) (w : World) (h : Ge.f a0_0 a0_1 C0 A0 = some (r1, r2)) :
  Calls Tryz.prog 79 #[.agg #[.int .i64 a0_0, .int .i64 a0_1], .agg #[.int .i64 C0, .int .i64 A0]] w fun e w' => e = .returned (.agg #[.int .i64 r1, .int .i64 r2]) ∧ Below w.heap.size w w' := by
 have D1 := Tryz.underlying28
 have HB := am_ (Below.refl w.heap.size w)
 have H : ((F1.f a0_0 a0_1).bind fun Z0 => ((F1.f C0 A0).bind fun N0 => (if Z0 = true then (if N0 = true then (some (Int.tmod (wrap64 (a0_0 + C0)) 10007, Int.tmod (wrap64 (a0_1 + A0)) 10007)) else (some (0, 0))) else (some (0, 0))))) = some (r1, r2) := h
 clear h
 replace H := Option.bind_eq_some_iff.mp H
 obtain ⟨Z0, C1, H⟩ := H
 try dsimp only at H
 have A3 := am_ C1
 clear C1
 replace H := Option.bind_eq_some_iff.mp H
 obtain ⟨N0, i1, H⟩ := H
 try dsimp only at H
 have A4 := am_ i1
 clear i1
 by_cases c5 : Z0 = true
 ·
  subst c5
  rw [if_pos rfl] at H
  by_cases c6 : N0 = true
  ·
   subst c6
   rw [if_pos rfl] at H
   simp only [Option.some.injEq, Prod.mk.injEq] at H
   obtain ⟨rfl, rfl⟩ := H
   go_enter Tryz.func79, Tryz.ntmps79
   go_wp2_with (first | ((with_reducible refine gd_ 2 ?_); refine be_ 2 #[.int .i64 a0_0, .int .i64 a0_1] 28 ?_; intro Q0 hg w7 hbox hb; have a0 := am_ hbox; have W0 := tG HB hg; have U0 := tG HB hg; replace HB := tHb HB hb; clear hb hbox hg) | ((with_reducible refine gd_ 3 ?_); refine be_ 3 #[.int .i64 C0, .int .i64 A0] 28 ?_; intro X0 hg w8 hbox hb; have m0 := am_ hbox; have P0 := tG HB hg; have V0 := tG HB hg; replace HB := tHb HB hb; obtain ⟨o0, L0⟩ := tN a0 hg; replace a0 := tBb a0 hb; clear hb hbox hg) | ((with_reducible refine gd_ 4 ?_); refine be_ 4 #[.int .i64 0, .int .i64 0] 28 ?_; intro M0 hg w9 hbox hb; have n0 := am_ hbox; have O0 := tG HB hg; have Y0 := tG HB hg; replace HB := tHb HB hb; obtain ⟨u0, E0⟩ := tN a0 hg; replace a0 := tBb a0 hb; obtain ⟨z0, I0⟩ := tN m0 hg; replace m0 := tBb m0 hb; clear hb hbox hg; obtain ⟨_, _⟩ := n2 o0; obtain ⟨_, _⟩ := n2 u0; obtain ⟨_, _, _, _⟩ := bx2 a0) | ((with_reducible refine gate_callee (f := 77) rfl ?_); refine gl_ (some 8) Tryz.func77 #[.agg #[.int .i64 a0_0, .int .i64 a0_1]] ?_; (with_reducible refine (F1.calls a0_0 a0_1 true _ A3.out).mono ?_); rintro e P1 ⟨rfl, hb⟩; refine ⟨_, rfl, ?_⟩; replace a0 := tBb a0 hb; replace m0 := tBb m0 hb; replace n0 := tBb n0 hb; replace HB := tHb HB hb; (try clear hb); obtain ⟨_, _⟩ := n2 z0; obtain ⟨_, _, _, _⟩ := bx2 m0) | ((with_reducible refine gate_callee (f := 77) rfl ?_); refine gl_ (some 10) Tryz.func77 #[.agg #[.int .i64 C0, .int .i64 A0]] ?_; (with_reducible refine (F1.calls C0 A0 true _ A4.out).mono ?_); rintro e w16 ⟨rfl, hb⟩; refine ⟨_, rfl, ?_⟩; replace a0 := tBb a0 hb; replace m0 := tBb m0 hb; replace n0 := tBb n0 hb; replace HB := tHb HB hb; (try clear hb); obtain ⟨_, _, _, _⟩ := bx2 a0; obtain ⟨_, _, _, _⟩ := bx2 m0; obtain ⟨_, _, _, _⟩ := bx2 n0))
   refine bodyPost_ret (results_cell_row rfl _ _ M0 28 #[.int .i64 (Int.tmod (wrap64 (a0_0 + C0)) 10007), .int .i64 (Int.tmod (wrap64 (a0_1 + A0)) 10007)] (0, 0) _ rfl (gP n0 rfl) Tryz.underlying28 rfl (by kernel_rfl)) rfl ?_
   exact ⟨fe, bh HB⟩
  replace c6 := Bool.eq_false_iff.mpr c6
  subst c6
  rw [if_neg (show ¬ (false = true) by decide)] at H
  simp only [Option.some.injEq, Prod.mk.injEq] at H
  obtain ⟨rfl, rfl⟩ := H
  go_enter Tryz.func79, Tryz.ntmps79
  go_wp2_with (first | ((with_reducible refine gd_ 2 ?_); refine be_ 2 #[.int .i64 a0_0, .int .i64 a0_1] 28 ?_; intro Q0 hg O1 hbox hb; have a0 := am_ hbox; have W0 := tG HB hg; have U0 := tG HB hg; replace HB := tHb HB hb; clear hb hbox hg) | ((with_reducible refine gd_ 3 ?_); refine be_ 3 #[.int .i64 C0, .int .i64 A0] 28 ?_; intro X0 hg Y1 hbox hb; have m0 := am_ hbox; have P0 := tG HB hg; have V0 := tG HB hg; replace HB := tHb HB hb; obtain ⟨o0, L0⟩ := tN a0 hg; replace a0 := tBb a0 hb; clear hb hbox hg) | ((with_reducible refine gd_ 4 ?_); refine be_ 4 #[.int .i64 0, .int .i64 0] 28 ?_; intro M0 hg Q1 hbox hb; have n0 := am_ hbox; have O0 := tG HB hg; have Y0 := tG HB hg; replace HB := tHb HB hb; obtain ⟨u0, E0⟩ := tN a0 hg; replace a0 := tBb a0 hb; obtain ⟨z0, I0⟩ := tN m0 hg; replace m0 := tBb m0 hb; clear hb hbox hg; obtain ⟨_, _⟩ := n2 o0; obtain ⟨_, _⟩ := n2 u0; obtain ⟨_, _, _, _⟩ := bx2 a0) | ((with_reducible refine gate_callee (f := 77) rfl ?_); refine gl_ (some 8) Tryz.func77 #[.agg #[.int .i64 a0_0, .int .i64 a0_1]] ?_; (with_reducible refine (F1.calls a0_0 a0_1 true _ A3.out).mono ?_); rintro e Z1 ⟨rfl, hb⟩; refine ⟨_, rfl, ?_⟩; replace a0 := tBb a0 hb; replace m0 := tBb m0 hb; replace n0 := tBb n0 hb; replace HB := tHb HB hb; (try clear hb); obtain ⟨_, _⟩ := n2 z0; obtain ⟨_, _, _, _⟩ := bx2 m0) | ((with_reducible refine gate_callee (f := 77) rfl ?_); refine gl_ (some 10) Tryz.func77 #[.agg #[.int .i64 C0, .int .i64 A0]] ?_; (with_reducible refine (F1.calls C0 A0 false _ A4.out).mono ?_); rintro e L1 ⟨rfl, hb⟩; refine ⟨_, rfl, ?_⟩; replace a0 := tBb a0 hb; replace m0 := tBb m0 hb; replace n0 := tBb n0 hb; replace HB := tHb HB hb; (try clear hb); obtain ⟨_, _, _, _⟩ := bx2 n0))
  refine bodyPost_ret (results_cell_row rfl _ _ M0 28 #[.int .i64 0, .int .i64 0] (0, 0) _ rfl (gP n0 rfl) Tryz.underlying28 rfl (by kernel_rfl)) rfl ?_
  exact ⟨fe, bh HB⟩
 replace c5 := Bool.eq_false_iff.mpr c5
 subst c5
 rw [if_neg (show ¬ (false = true) by decide)] at H
 simp only [Option.some.injEq, Prod.mk.injEq] at H
 obtain ⟨rfl, rfl⟩ := H
 go_enter Tryz.func79, Tryz.ntmps79
 go_wp2_with (first | ((with_reducible refine gd_ 2 ?_); refine be_ 2 #[.int .i64 a0_0, .int .i64 a0_1] 28 ?_; intro Q0 hg N1 hbox hb; have a0 := am_ hbox; have W0 := tG HB hg; have U0 := tG HB hg; replace HB := tHb HB hb; clear hb hbox hg) | ((with_reducible refine gd_ 3 ?_); refine be_ 3 #[.int .i64 C0, .int .i64 A0] 28 ?_; intro X0 hg U1 hbox hb; have m0 := am_ hbox; have P0 := tG HB hg; have V0 := tG HB hg; replace HB := tHb HB hb; obtain ⟨o0, L0⟩ := tN a0 hg; replace a0 := tBb a0 hb; clear hb hbox hg) | ((with_reducible refine gd_ 4 ?_); refine be_ 4 #[.int .i64 0, .int .i64 0] 28 ?_; intro M0 hg V1 hbox hb; have n0 := am_ hbox; have O0 := tG HB hg; have Y0 := tG HB hg; replace HB := tHb HB hb; obtain ⟨u0, E0⟩ := tN a0 hg; replace a0 := tBb a0 hb; obtain ⟨z0, I0⟩ := tN m0 hg; replace m0 := tBb m0 hb; clear hb hbox hg; obtain ⟨_, _⟩ := n2 o0; obtain ⟨_, _⟩ := n2 u0; obtain ⟨_, _, _, _⟩ := bx2 a0) | ((with_reducible refine gate_callee (f := 77) rfl ?_); refine gl_ (some 8) Tryz.func77 #[.agg #[.int .i64 a0_0, .int .i64 a0_1]] ?_; (with_reducible refine (F1.calls a0_0 a0_1 false _ A3.out).mono ?_); rintro e i2 ⟨rfl, hb⟩; refine ⟨_, rfl, ?_⟩; replace a0 := tBb a0 hb; replace m0 := tBb m0 hb; replace n0 := tBb n0 hb; replace HB := tHb HB hb; (try clear hb); obtain ⟨_, _⟩ := n2 z0; obtain ⟨_, _, _, _⟩ := bx2 m0) | ((with_reducible refine gate_callee (f := 77) rfl ?_); refine gl_ (some 10) Tryz.func77 #[.agg #[.int .i64 C0, .int .i64 A0]] ?_; (with_reducible refine (F1.calls C0 A0 N0 _ A4.out).mono ?_); rintro e X1 ⟨rfl, hb⟩; refine ⟨_, rfl, ?_⟩; replace a0 := tBb a0 hb; replace m0 := tBb m0 hb; replace n0 := tBb n0 hb; replace HB := tHb HB hb; (try clear hb); obtain ⟨_, _, _, _⟩ := bx2 n0))
 refine bodyPost_ret (results_cell_row rfl _ _ M0 28 #[.int .i64 0, .int .i64 0] (0, 0) _ rfl (gP n0 rfl) Tryz.underlying28 rfl (by kernel_rfl)) rfl ?_
 exact ⟨fe, bh HB⟩

def G5.f (a0_0 : Int) (a0_1 : Int) (a0 : Int) (m0 : Int) : Option (Int × Int) := (F1.f a0_0 a0_1).bind fun n0 => ((F1.f a0 m0).bind fun o0 => (if n0 = true then (if o0 = true then (some (Int.tmod (wrap64 ((wrap64 ((wrap64 (a0_0 * a0)) + 100140049)) - (wrap64 (a0_1 * m0)))) 10007, Int.tmod (wrap64 ((wrap64 (a0_0 * m0)) + (wrap64 (a0_1 * a0)))) 10007)) else (some (0, 0))) else (some (0, 0))))
set_option maxHeartbeats 8000000 in
set_option maxRecDepth 100000 in
theorem G5.calls (a0_0 : Int) (a0_1 : Int) (C0 : Int) (A0 : Int) (r1 : Int) (r2 : Int) (w : World) (h : G5.f a0_0 a0_1 C0 A0 = some (r1, r2)) :
  Calls Tryz.prog 80 #[.agg #[.int .i64 a0_0, .int .i64 a0_1], .agg #[.int .i64 C0, .int .i64 A0]] w fun e w' => e = .returned (.agg #[.int .i64 r1, .int .i64 r2]) ∧ Below w.heap.size w w' := by
 have D1 := Tryz.underlying28
 have HB := am_ (Below.refl w.heap.size w)
 have H : ((F1.f a0_0 a0_1).bind fun Z0 => ((F1.f C0 A0).bind fun N0 => (if Z0 = true then (if N0 = true then (some (Int.tmod (wrap64 ((wrap64 ((wrap64 (a0_0 * C0)) + 100140049)) - (wrap64 (a0_1 * A0)))) 10007, Int.tmod (wrap64 ((wrap64 (a0_0 * A0)) + (wrap64 (a0_1 * C0)))) 10007)) else (some (0, 0))) else (some (0, 0))))) = some (r1, r2) := h
 clear h
 replace H := Option.bind_eq_some_iff.mp H
 obtain ⟨Z0, C1, H⟩ := H
 try dsimp only at H
 have A3 := am_ C1
 clear C1
 replace H := Option.bind_eq_some_iff.mp H
 obtain ⟨N0, i1, H⟩ := H
 try dsimp only at H
 have A4 := am_ i1
 clear i1
 by_cases c5 : Z0 = true
 ·
  subst c5
  rw [if_pos rfl] at H
  by_cases c6 : N0 = true
  ·
   subst c6
   rw [if_pos rfl] at H
   simp only [Option.some.injEq, Prod.mk.injEq] at H
   obtain ⟨rfl, rfl⟩ := H
   go_enter Tryz.func80, Tryz.ntmps80
   go_wp2_with (first | ((with_reducible refine gd_ 2 ?_); refine be_ 2 #[.int .i64 a0_0, .int .i64 a0_1] 28 ?_; intro W0 hg w7 hbox hb; have a0 := am_ hbox; have O0 := tG HB hg; have X0 := tG HB hg; replace HB := tHb HB hb; clear hb hbox hg) | ((with_reducible refine gd_ 3 ?_); refine be_ 3 #[.int .i64 C0, .int .i64 A0] 28 ?_; intro Y0 hg w8 hbox hb; have m0 := am_ hbox; have Q0 := tG HB hg; have U0 := tG HB hg; replace HB := tHb HB hb; obtain ⟨u0, L0⟩ := tN a0 hg; replace a0 := tBb a0 hb; clear hb hbox hg) | ((with_reducible refine gd_ 4 ?_); refine be_ 4 #[.int .i64 0, .int .i64 0] 28 ?_; intro M0 hg w9 hbox hb; have n0 := am_ hbox; have V0 := tG HB hg; have P0 := tG HB hg; replace HB := tHb HB hb; obtain ⟨o0, I0⟩ := tN a0 hg; replace a0 := tBb a0 hb; obtain ⟨z0, E0⟩ := tN m0 hg; replace m0 := tBb m0 hb; clear hb hbox hg; obtain ⟨_, _⟩ := n2 u0; obtain ⟨_, _⟩ := n2 o0; obtain ⟨_, _, _, _⟩ := bx2 a0) | ((with_reducible refine gate_callee (f := 77) rfl ?_); refine gl_ (some 8) Tryz.func77 #[.agg #[.int .i64 a0_0, .int .i64 a0_1]] ?_; (with_reducible refine (F1.calls a0_0 a0_1 true _ A3.out).mono ?_); rintro e P1 ⟨rfl, hb⟩; refine ⟨_, rfl, ?_⟩; replace a0 := tBb a0 hb; replace m0 := tBb m0 hb; replace n0 := tBb n0 hb; replace HB := tHb HB hb; (try clear hb); obtain ⟨_, _⟩ := n2 z0; obtain ⟨_, _, _, _⟩ := bx2 m0) | ((with_reducible refine gate_callee (f := 77) rfl ?_); refine gl_ (some 10) Tryz.func77 #[.agg #[.int .i64 C0, .int .i64 A0]] ?_; (with_reducible refine (F1.calls C0 A0 true _ A4.out).mono ?_); rintro e w16 ⟨rfl, hb⟩; refine ⟨_, rfl, ?_⟩; replace a0 := tBb a0 hb; replace m0 := tBb m0 hb; replace n0 := tBb n0 hb; replace HB := tHb HB hb; (try clear hb); obtain ⟨_, _, _, _⟩ := bx2 a0; obtain ⟨_, _, _, _⟩ := bx2 m0; obtain ⟨_, _, _, _⟩ := bx2 n0))
   refine bodyPost_ret (results_cell_row rfl _ _ M0 28 #[.int .i64 (Int.tmod (wrap64 ((wrap64 ((wrap64 (a0_0 * C0)) + 100140049)) - (wrap64 (a0_1 * A0)))) 10007), .int .i64 (Int.tmod (wrap64 ((wrap64 (a0_0 * A0)) + (wrap64 (a0_1 * C0)))) 10007)] (0, 0) _ rfl (gP n0 rfl) Tryz.underlying28 rfl (by kernel_rfl)) rfl ?_
   exact ⟨fe, bh HB⟩
  replace c6 := Bool.eq_false_iff.mpr c6
  subst c6
  rw [if_neg (show ¬ (false = true) by decide)] at H
  simp only [Option.some.injEq, Prod.mk.injEq] at H
  obtain ⟨rfl, rfl⟩ := H
  go_enter Tryz.func80, Tryz.ntmps80
  go_wp2_with (first | ((with_reducible refine gd_ 2 ?_); refine be_ 2 #[.int .i64 a0_0, .int .i64 a0_1] 28 ?_; intro W0 hg O1 hbox hb; have a0 := am_ hbox; have O0 := tG HB hg; have X0 := tG HB hg; replace HB := tHb HB hb; clear hb hbox hg) | ((with_reducible refine gd_ 3 ?_); refine be_ 3 #[.int .i64 C0, .int .i64 A0] 28 ?_; intro Y0 hg Y1 hbox hb; have m0 := am_ hbox; have Q0 := tG HB hg; have U0 := tG HB hg; replace HB := tHb HB hb; obtain ⟨u0, L0⟩ := tN a0 hg; replace a0 := tBb a0 hb; clear hb hbox hg) | ((with_reducible refine gd_ 4 ?_); refine be_ 4 #[.int .i64 0, .int .i64 0] 28 ?_; intro M0 hg Q1 hbox hb; have n0 := am_ hbox; have V0 := tG HB hg; have P0 := tG HB hg; replace HB := tHb HB hb; obtain ⟨o0, I0⟩ := tN a0 hg; replace a0 := tBb a0 hb; obtain ⟨z0, E0⟩ := tN m0 hg; replace m0 := tBb m0 hb; clear hb hbox hg; obtain ⟨_, _⟩ := n2 u0; obtain ⟨_, _⟩ := n2 o0; obtain ⟨_, _, _, _⟩ := bx2 a0) | ((with_reducible refine gate_callee (f := 77) rfl ?_); refine gl_ (some 8) Tryz.func77 #[.agg #[.int .i64 a0_0, .int .i64 a0_1]] ?_; (with_reducible refine (F1.calls a0_0 a0_1 true _ A3.out).mono ?_); rintro e Z1 ⟨rfl, hb⟩; refine ⟨_, rfl, ?_⟩; replace a0 := tBb a0 hb; replace m0 := tBb m0 hb; replace n0 := tBb n0 hb; replace HB := tHb HB hb; (try clear hb); obtain ⟨_, _⟩ := n2 z0; obtain ⟨_, _, _, _⟩ := bx2 m0) | ((with_reducible refine gate_callee (f := 77) rfl ?_); refine gl_ (some 10) Tryz.func77 #[.agg #[.int .i64 C0, .int .i64 A0]] ?_; (with_reducible refine (F1.calls C0 A0 false _ A4.out).mono ?_); rintro e L1 ⟨rfl, hb⟩; refine ⟨_, rfl, ?_⟩; replace a0 := tBb a0 hb; replace m0 := tBb m0 hb; replace n0 := tBb n0 hb; replace HB := tHb HB hb; (try clear hb); obtain ⟨_, _, _, _⟩ := bx2 n0))
  refine bodyPost_ret (results_cell_row rfl _ _ M0 28 #[.int .i64 0, .int .i64 0] (0, 0) _ rfl (gP n0 rfl) Tryz.underlying28 rfl (by kernel_rfl)) rfl ?_
  exact ⟨fe, bh HB⟩
 replace c5 := Bool.eq_false_iff.mpr c5
 subst c5
 rw [if_neg (show ¬ (false = true) by decide)] at H
 simp only [Option.some.injEq, Prod.mk.injEq] at H
 obtain ⟨rfl, rfl⟩ := H
 go_enter Tryz.func80, Tryz.ntmps80
 go_wp2_with (first | ((with_reducible refine gd_ 2 ?_); refine be_ 2 #[.int .i64 a0_0, .int .i64 a0_1] 28 ?_; intro W0 hg N1 hbox hb; have a0 := am_ hbox; have O0 := tG HB hg; have X0 := tG HB hg; replace HB := tHb HB hb; clear hb hbox hg) | ((with_reducible refine gd_ 3 ?_); refine be_ 3 #[.int .i64 C0, .int .i64 A0] 28 ?_; intro Y0 hg U1 hbox hb; have m0 := am_ hbox; have Q0 := tG HB hg; have U0 := tG HB hg; replace HB := tHb HB hb; obtain ⟨u0, L0⟩ := tN a0 hg; replace a0 := tBb a0 hb; clear hb hbox hg) | ((with_reducible refine gd_ 4 ?_); refine be_ 4 #[.int .i64 0, .int .i64 0] 28 ?_; intro M0 hg V1 hbox hb; have n0 := am_ hbox; have V0 := tG HB hg; have P0 := tG HB hg; replace HB := tHb HB hb; obtain ⟨o0, I0⟩ := tN a0 hg; replace a0 := tBb a0 hb; obtain ⟨z0, E0⟩ := tN m0 hg; replace m0 := tBb m0 hb; clear hb hbox hg; obtain ⟨_, _⟩ := n2 u0; obtain ⟨_, _⟩ := n2 o0; obtain ⟨_, _, _, _⟩ := bx2 a0) | ((with_reducible refine gate_callee (f := 77) rfl ?_); refine gl_ (some 8) Tryz.func77 #[.agg #[.int .i64 a0_0, .int .i64 a0_1]] ?_; (with_reducible refine (F1.calls a0_0 a0_1 false _ A3.out).mono ?_); rintro e i2 ⟨rfl, hb⟩; refine ⟨_, rfl, ?_⟩; replace a0 := tBb a0 hb; replace m0 := tBb m0 hb; replace n0 := tBb n0 hb; replace HB := tHb HB hb; (try clear hb); obtain ⟨_, _⟩ := n2 z0; obtain ⟨_, _, _, _⟩ := bx2 m0) | ((with_reducible refine gate_callee (f := 77) rfl ?_); refine gl_ (some 10) Tryz.func77 #[.agg #[.int .i64 C0, .int .i64 A0]] ?_; (with_reducible refine (F1.calls C0 A0 N0 _ A4.out).mono ?_); rintro e X1 ⟨rfl, hb⟩; refine ⟨_, rfl, ?_⟩; replace a0 := tBb a0 hb; replace m0 := tBb m0 hb; replace n0 := tBb n0 hb; replace HB := tHb HB hb; (try clear hb); obtain ⟨_, _, _, _⟩ := bx2 n0))
 refine bodyPost_ret (results_cell_row rfl _ _ M0 28 #[.int .i64 0, .int .i64 0] (0, 0) _ rfl (gP n0 rfl) Tryz.underlying28 rfl (by kernel_rfl)) rfl ?_
 exact ⟨fe, bh HB⟩

def Fg.l0 : Nat → List (S28) → Int → Int → Int → Int → Int → Option (Int × Int)
 | 0, _, _, _, _, _, _ => none
 | k + 1, x0, x6, a0, o0, n0, m0 => if x6 ≥ 0 then ((G5.f n0 m0 a0 o0).bind fun z0 => (if 0 ≤ x6 then (if x6 < (x0.length : Int) then ((Ge.f z0.1 z0.2 ((rd_T28 x0 x6).f0) ((rd_T28 x0 x6).f1)).bind fun u0 => (Fg.l0 k x0 (wrap64 (x6 - 1)) a0 o0 u0.1 u0.2)) else (none)) else (none))) else (some (n0, m0))
def Fg.f (k : Nat) (l0 : List (S28)) (a0 : Int) (m0 : Int) : Option (Int × Int) := Fg.l0 k l0 (wrap64 ((l0.length : Int) - 1)) a0 m0 0 0
theorem Fg.mono_l : ∀ k, (∀ y0 y1 y2 y3 y4 y5, LeO (Fg.l0 k y0 y1 y2 y3 y4 y5) (Fg.l0 (k + 1) y0 y1 y2 y3 y4 y5))
 | 0 => fun _ _ _ _ _ _ r h => by simp [Fg.l0] at h
 | k + 1 => by
  have a0 := Fg.mono_l k
  ·
   intro y0 y1 y2 y3 y4 y5
   unfold Fg.l0
   repeat' first | (with_reducible first | exact a0 _ _ _ _ _ _ | exact LeO.refl _ | exact LeO.none _ | refine LeO.ite ?_ ?_ | refine LeO.bind ?_ (fun _ => ?_)) | exact a0 _ _ _ _ _ _ | refine LeO.ite ?_ ?_ | refine LeO.bind ?_ (fun _ => ?_)
theorem Fg.mono : ∀ a0 a1 a2 k, LeO (Fg.f k a0 a1 a2) (Fg.f (k + 1) a0 a1 a2) := by
 intro a0 a1 a2 k
 have m0 := Fg.mono_l k
 unfold Fg.f
 repeat' first | (with_reducible first | exact m0 _ _ _ _ _ _ | exact LeO.refl _ | exact LeO.none _ | refine LeO.ite ?_ ?_ | refine LeO.bind ?_ (fun _ => ?_)) | exact m0 _ _ _ _ _ _ | refine LeO.ite ?_ ?_ | refine LeO.bind ?_ (fun _ => ?_)
def Fg.T5 : Bool × List (List Nat × List Nat) := (true, [([], []), ([], []), ([0, 1], [0, 1]), ([], []), ([], []), ([3, 4], [3, 4]), ([5], [5]), ([2, 6, 2], [2, 6]), ([7, 7, 0, 1, 2, 3, 4, 5, 6, 7], [7])])
def Fg.B5 : List Nat := [0, 0, 3, 0, 0, 24, 56, 127, 255]
theorem Fg.tab5 : rtab .any (opsOf Tryz.f84 5) = Fg.T5 := by kernel_rfl
theorem Fg.bits5 : waitsOk Fg.T5.2 Fg.B5 = true := by kernel_rfl
set_option maxHeartbeats 8000000 in
set_option maxRecDepth 100000 in
theorem Fg.calls (k : Nat) (A0 : Option Addr) (c0 : Nat) (l0 : List (S28)) (U0 : Int) (Q0 : Int) (r1 : Int) (r2 : Int) (w : World) (i3 : Kd.C k28 w A0 l0.length l0) (C3 : l0.length ≤ c0) (h : Fg.f k l0 U0 Q0 = some (r1, r2)) :
  Calls Tryz.prog 84 #[.slice A0 l0.length c0, .agg #[.int .i64 U0, .int .i64 Q0]] w fun e w' => e = .returned (.agg #[.int .i64 r1, .int .i64 r2]) ∧ Below w.heap.size w w' := by
 have Q3 := Tryz.underlying28
 have S3 := am_ i3
 have a4 := am_ C3
 clear i3 C3
 have HB := am_ (Below.refl w.heap.size w)
 have H : (Fg.l0 k l0 (wrap64 ((l0.length : Int) - 1)) U0 Q0 0 0) = some (r1, r2) := h
 clear h
 have H' := am_ H
 clear H
 go_enter Tryz.func84, Tryz.ntmps84
 go_wp2_with (first | ((with_reducible refine gd_ 3 ?_); refine be_ 3 #[.int .i64 U0, .int .i64 Q0] 28 ?_; intro P1 hg w3 hbox hb; have m0 := am_ hbox; have u3 := tG HB hg; have k3 := tG HB hg; replace HB := tHb HB hb; clear hb hbox hg) | ((with_reducible refine gd_ 4 ?_); refine be_ 4 #[.int .i64 0, .int .i64 0] 28 ?_; intro X0 hg w4 hbox hb; have u0 := am_ hbox; have a3 := tG HB hg; have D3 := tG HB hg; replace HB := tHb HB hb; obtain ⟨D1, V0⟩ := tN m0 hg; replace m0 := tBb m0 hb; clear hb hbox hg) | ((with_reducible refine gd_ 5 ?_); refine be_ 5 #[.int .i64 0, .int .i64 0] 28 ?_; intro W0 hg w5 hbox hb; have a0 := am_ hbox; have I3 := tG HB hg; have Z2 := tG HB hg; replace HB := tHb HB hb; obtain ⟨M0, C0⟩ := tN m0 hg; replace m0 := tBb m0 hb; obtain ⟨N0, z0⟩ := tN u0 hg; replace u0 := tBb u0 hb; clear hb hbox hg; obtain ⟨_, _⟩ := n2 C0; obtain ⟨_, _⟩ := n2 z0; obtain ⟨Q2, L2, Y2, N2⟩ := bx2 a0))
 go_loopg [6] k (fun kq v6 w' => ∃ (E0 : Int) (o0 : Int) (n0 : Int), v6 = .int .i64 E0 ∧ Asc (Fg.l0 kq l0 E0 U0 Q0 o0 n0 = some (r1, r2)) ∧ Asc (kq ≤ k) ∧ Asc (w'.heap[P1]? = some (.cells #[.int .i64 U0, .int .i64 Q0] 28 (0, 0))) ∧ Asc (w'.heap[X0]? = some (.cells #[.int .i64 0, .int .i64 0] 28 (0, 0))) ∧ Asc (w'.heap[W0]? = some (.cells #[.int .i64 o0, .int .i64 n0] 28 (0, 0))) ∧ Asc (Below w.heap.size w w'))
 case atStart => exact ⟨(wrap64 ((l0.length : Int) - 1)), (0), (0), fr, H', ⟨Nat.le_refl _⟩, ⟨gB m0⟩, ⟨gB u0⟩, ⟨gP a0 rfl⟩, ⟨bh HB⟩⟩
 case round =>
  clear H'
  try clear Q2 L2 Y2 N2
  obtain ⟨E0, o0, n0, rfl, HA, l3, m0, u0, a0, HB⟩ := hrel
  cases gk with
  | zero => exact absurd HA.out (by simp [Fg.l0])
  | succ k1 =>
   have H := HA.out
   clear HA
   simp only [Fg.l0] at H
   by_cases c9 : E0 ≥ 0
   ·
    rw [if_pos c9] at H
    have V2 : decide (0 ≤ E0) = true := decide_eq_true c9
    clear c9
    replace H := Option.bind_eq_some_iff.mp H
    obtain ⟨⟨Z0, i1⟩, N1, H⟩ := H
    try dsimp only at H
    have V3 := am_ N1
    clear N1
    revert H
    refine gi (fun m3 H => ?_)
    revert H
    refine gi (fun J3 H => ?_)
    replace H := Option.bind_eq_some_iff.mp H
    obtain ⟨⟨Q1, L1⟩, O1, H⟩ := H
    try dsimp only at H
    have U3 := am_ O1
    clear O1
    have H' := am_ H
    clear H
    try go_wp2
    replace m0 := am_ (blk_drew m0.out)
    replace u0 := am_ (blk_drew u0.out)
    replace a0 := am_ (blk_drew a0.out)
    replace HB := am_ (below_drew1 HB.out)
    have C1 : 0 ≤ (E0 : Int) := dt
    have Y0 : E0 < (l0.length : Int) := dt
    obtain ⟨N3, J2, I0, L0⟩ := at_T28 S3.out E0 C1 Y0
    have P0 := L0
    have O0 := I0
    cases J2
    replace I0 := ce HB I0
    replace L0 := ce HB L0
    replace C1 := eq_true C1
    replace Y0 := eq_true Y0
    refine st_ 9 [8] (k2_ a0 (k2_ m0 (cd_ (ce HB (by first | exact O0)) (cd_ (ce HB (by first | exact P0)) ct)))) (fun hHeld => ?_); refine with_tabW Fg.tab5 Fg.bits5 (fun HT_ HW_ => ?_)
    generalize wr.drew = Y3 at m0 u0 a0 HB I0 L0 hHeld ⊢
    refine pu_ 3 (some 18) 8 HT_ (h := ?_)
    refine pu_ 4 (some 19) 24 HT_ (h := ?_)
    refine pu_ 5 (some 20) 56 HT_ (h := ?_)
    refine tk_ 0 (some 15) 57 HT_ HW_ hHeld (h := ?_)
    refine tk_ 1 (some 16) 59 HT_ HW_ hHeld (h := ?_)
    refine tk_ 6 (some 21) 123 HT_ HW_ hHeld (h := ?_)
    refine one_ (i := 2) (N := some 17) #[true, true, true, true, true, true, true, false, false] rfl rfl (one_of HT_.out (by kernel_rfl)) (by decide) (fun K hK => ?_)
    refine goes_ Tryz.func80 (by kernel_rfl) rfl #[.agg #[.int .i64 o0, .int .i64 n0], .agg #[.int .i64 U0, .int .i64 Q0]] (by rfl) rfl rfl (by (try simp only [List.map_toArray, List.map_cons, List.map_nil]); first | done | rfl | (simp only [List.length_drop, List.length_take]; rfl)) ?_
    with_reducible refine (G5.calls o0 n0 U0 Q0 Z0 i1 _ V3.out).mono ?_
    rintro e Z3 ⟨rfl, hb⟩
    refine ⟨_, rfl, ?_⟩
    replace m0 := tBb m0 hb
    replace u0 := tBb u0 hb
    replace a0 := tBb a0 hb
    replace HB := tHb HB hb
    (try clear hb)
    (try clear hb2)
    (try clear hk)
    (try clear hi)
    refine hK.out _ _ (m2_ a0 (m2_ m0 (m0_ (ce HB (by first | exact O0)) (m0_ (ce HB (by first | exact P0)) ct)))) (fun hHeld => ?_)
    clear hK K
    refine norm_ (a' := ?_) ?_ ?_
    rotate_left
    ·
     show Act.put _ (some 17) _ = _
     simp only [Act.put, List.setIfInBounds_toArray, List.set_cons_zero, List.set_cons_succ, i64_w, i32_w]
     rfl
    refine one_ (i := 7) (N := some 22) #[true, true, true, true, true, true, true, true, false] rfl rfl (one_of HT_.out (by kernel_rfl)) (by decide) (fun K hK => ?_)
    refine goes_ Tryz.func79 (by kernel_rfl) rfl #[.agg #[.int .i64 Z0, .int .i64 i1], .agg #[.int .i64 ((rd_T28 l0 E0).f0), .int .i64 ((rd_T28 l0 E0).f1)]] (by rfl) rfl rfl (by (try simp only [List.map_toArray, List.map_cons, List.map_nil]); first | done | rfl | (simp only [List.length_drop, List.length_take]; rfl)) ?_
    with_reducible refine (Ge.calls Z0 i1 ((rd_T28 l0 E0).f0) ((rd_T28 l0 E0).f1) Q1 L1 _ U3.out).mono ?_
    rintro e w16 ⟨rfl, hb⟩
    refine ⟨_, rfl, ?_⟩
    replace m0 := tBb m0 hb
    replace u0 := tBb u0 hb
    replace a0 := tBb a0 hb
    replace HB := tHb HB hb
    (try clear hb)
    (try clear hb2)
    (try clear hk)
    (try clear hi)
    refine hK.out _ _ (m2_ a0 (m2_ m0 (m0_ (ce HB (by first | exact O0)) (m0_ (ce HB (by first | exact P0)) ct)))) (fun hHeld => ?_)
    clear hK K
    refine norm_ (a' := ?_) ?_ ?_
    rotate_left
    ·
     show Act.put _ (some 22) _ = _
     simp only [Act.put, List.setIfInBounds_toArray, List.set_cons_zero, List.set_cons_succ, i64_w, i32_w]
     rfl
    refine last_ (i := 8) (N := none) #[true, true, true, true, true, true, true, true, true] rfl rfl (one_of HT_.out (by kernel_rfl)) (by decide) (fun K hK => ?_)
    have W3 : w16.cell? ⟨W0, 0, none⟩ = some (.int .i64 o0) := (blk_cell a0.out 0).trans rfl
    have b3 := blk_frozen a0.out 0
    have C2 := M0.out
    have Y1 := N0.out
    have i2 := C0.out
    have V1 := z0.out
    have X3 : w16.cell? ⟨W0, 1, none⟩ = some (.int .i64 n0) := (blk_cell a0.out 1).trans rfl
    have L3 := blk_frozen a0.out 1
    have D2 := M0.out
    have X1 := N0.out
    have U1 := C0.out
    have Z1 := z0.out
    refine skip_ (w1 := ?_) (by rfl) rfl ?_ ?_
    rotate_left
    ·
     go_simp
     rfl
    refine hK.out _ _ ?_
    clear hK K
    refine done_ (done_of HT_.out (by kernel_rfl)) ?_
    try go_wp2
    go_roundg k1
    case measure => have := l3.out; omega
    case rel => exact ⟨(wrap64 (E0 - 1)), (Q1), (L1), fr, H', kS l3, ⟨gB m0⟩, ⟨gB u0⟩, ⟨gP a0 rfl⟩, ⟨bh HB⟩⟩
   rw [if_neg c9] at H
   have V2 : decide (0 ≤ E0) = false := decide_eq_false c9
   clear c9
   simp only [Option.some.injEq, Prod.mk.injEq] at H
   obtain ⟨rfl, rfl⟩ := H
   obtain ⟨_, _⟩ := n2 C0
   obtain ⟨_, _⟩ := n2 z0
   obtain ⟨_, _, _, _⟩ := bx2 a0
   obtain ⟨_, _⟩ := n2 V0
   obtain ⟨_, _, _, _⟩ := bx2 u0
   go_wp2
   refine bodyPost_ret (results_cell_row rfl _ _ X0 28 #[.int .i64 o0, .int .i64 n0] (0, 0) _ rfl (gP u0 rfl) Tryz.underlying28 rfl (by kernel_rfl)) rfl ?_
   exact ⟨fe, bh HB⟩

mutual
def Fi.j0 : Nat → List (S28) → Int → Bool → Option (Int × Int × Int × Int)
 | 0, _, _, _ => none
 | k + 1, x0, x1, a0 => if a0 = true then (none) else (Fi.l0 k x0 x1 0)
def Fi.l0 : Nat → List (S28) → Int → Int → Option (Int × Int × Int × Int)
 | 0, _, _, _ => none
 | k + 1, x0, x1, x6 => if x6 < (x0.length : Int) then (if 0 ≤ x6 then ((F1.f ((rd_T28 x0 x6).f0) ((rd_T28 x0 x6).f1)).bind fun m0 => (if m0 = true then (Fi.l0 k x0 x1 (wrap64 (x6 + 1))) else (none))) else (none)) else ((Fg.f k x0 x1 0).bind fun a0 => (some (x1, a0.1, a0.2, 0)))
end
def Fi.f (k : Nat) (l0 : List (S28)) (a1 : Int) : Option (Int × Int × Int × Int) := if a1 < 1 then (none) else (Fi.j0 k l0 a1 (decide (a1 > 64)))
theorem Fi.mono_l : ∀ k, (∀ y0 y1 y2, LeO (Fi.j0 k y0 y1 y2) (Fi.j0 (k + 1) y0 y1 y2)) ∧ (∀ y0 y1 y2, LeO (Fi.l0 k y0 y1 y2) (Fi.l0 (k + 1) y0 y1 y2))
 | 0 => ⟨fun _ _ _ r h => by simp [Fi.j0] at h, fun _ _ _ r h => by simp [Fi.l0] at h⟩
 | k + 1 => by
  obtain ⟨m0, a0⟩ := Fi.mono_l k
  refine ⟨?_, ?_⟩
  ·
   intro y0 y1 y2
   unfold Fi.j0
   repeat' first | (with_reducible first | exact m0 _ _ _ | exact a0 _ _ _ | exact Fg.mono _ _ _ _ | exact LeO.refl _ | exact LeO.none _ | refine LeO.ite ?_ ?_ | refine LeO.bind ?_ (fun _ => ?_)) | exact m0 _ _ _ | exact a0 _ _ _ | refine LeO.ite ?_ ?_ | refine LeO.bind ?_ (fun _ => ?_)
  intro y0 y1 y2
  unfold Fi.l0
  repeat' first | (with_reducible first | exact m0 _ _ _ | exact a0 _ _ _ | exact Fg.mono _ _ _ _ | exact LeO.refl _ | exact LeO.none _ | refine LeO.ite ?_ ?_ | refine LeO.bind ?_ (fun _ => ?_)) | exact m0 _ _ _ | exact a0 _ _ _ | refine LeO.ite ?_ ?_ | refine LeO.bind ?_ (fun _ => ?_)
theorem Fi.mono : ∀ a0 a1 k, LeO (Fi.f k a0 a1) (Fi.f (k + 1) a0 a1) := by
 intro a0 a1 k
 obtain ⟨n0, m0⟩ := Fi.mono_l k
 unfold Fi.f
 repeat' first | (with_reducible first | exact n0 _ _ _ | exact m0 _ _ _ | exact Fg.mono _ _ _ _ | exact LeO.refl _ | exact LeO.none _ | refine LeO.ite ?_ ?_ | refine LeO.bind ?_ (fun _ => ?_)) | exact n0 _ _ _ | exact m0 _ _ _ | refine LeO.ite ?_ ?_ | refine LeO.bind ?_ (fun _ => ?_)
set_option maxHeartbeats 8000000 in
set_option maxRecDepth 100000 in
theorem Fi.calls (k : Nat) (A0 : Option Addr) (c0 : Nat) (l0 : List (S28)) (a1 : Int) (r1 : Int) (r2 : Int) (r3 : Int) (r4 : Int) (w : World) (D1 : Kd.C k28 w A0 l0.length l0) (V1 : l0.length ≤ c0) (h : Fi.f k l0 a1 = some (r1, r2, r3, r4)) :
  Calls Tryz.prog 64 #[.slice A0 l0.length c0, .int .i64 a1] w fun e w' => e = .returned (.tuple #[.agg #[.int .i64 r1, .int .i64 r2, .int .i64 r3], .int .i64 r4]) ∧ Below w.heap.size w w' := by
 have L2 := Tryz.underlying76
 have Y1 := Tryz.underlying28
 have Q1 := am_ D1
 have D2 := am_ V1
 clear D1 V1
 have HB := am_ (Below.refl w.heap.size w)
 have H : (if a1 < 1 then (none) else (Fi.j0 k l0 a1 (decide (a1 > 64)))) = some (r1, r2, r3, r4) := h
 clear h
 have Z0 := am_ H
 clear H
 go_enter Tryz.func64, Tryz.ntmps64
 go_upto_region 1 with (first | ((with_reducible refine gd_ 4 ?_); refine be_ 4 #[.int .i64 0, .int .i64 0, .int .i64 0] 76 ?_; intro I0 hg w4 hbox hb; have a0 := am_ hbox; have O1 := tG HB hg; have X1 := tG HB hg; replace HB := tHb HB hb; clear hb hbox hg))
 (try simp only [Act.put, List.setIfInBounds_toArray, List.set_cons_zero, List.set_cons_succ])
 go_cut [13] (fun Z1 wc => ∃ (kq : Nat) (C0 : Bool), Z1 = .bool C0 ∧ Asc (Fi.j0 kq l0 a1 C0 = some (r1, r2, r3, r4)) ∧ Asc (kq ≤ k) ∧ Asc (wc.heap[I0]? = some (.cells #[.int .i64 0, .int .i64 0, .int .i64 0] 76 (0, 0))) ∧ Asc (Below w.heap.size w wc))
 case first =>
  have H := Z0.out
  clear Z0
  by_cases c5 : a1 < 1
  ·
   rw [if_pos c5] at H
   exact absurd H (by simp)
  rw [if_neg c5] at H
  have N0 : decide (a1 < 1) = false := decide_eq_false c5
  clear c5
  (first | rw [N0] | (simp only [i64_w, i32_w]; rw [N0]) | skip)
  have H' := am_ H
  clear H
  go_wp2
  go_meet
  case rel => exact ⟨_, (decide (a1 > 64)), fr, H', ⟨by first | omega | exact Nat.le_refl _⟩, ⟨gB a0⟩, ⟨bh HB⟩⟩
 case rest =>
  clear Z0
  obtain ⟨kq, C0, rfl, HA, L1, a0, HB⟩ := hcut
  cases kq with
  | zero => exact absurd HA.out (by simp [Fi.j0])
  | succ N1 =>
   have H := HA.out
   clear HA
   simp only [Fi.j0] at H
   by_cases c6 : C0 = true
   ·
    subst c6
    have H1 : (none) = some (r1, r2, r3, r4) := by rw [if_pos rfl] at H; exact H
    exact absurd H1 (by simp)
   replace c6 := Bool.eq_false_iff.mpr c6
   subst c6
   rw [if_neg (show ¬ (false = true) by decide)] at H
   have H' := am_ H
   clear H
   go_wp2
   go_loopg [6] N1 (fun kq v6 w' => ∃ (m0 : Int) (o0 : Int) (n0 : Int) (u0 : Int), v6 = .int .i64 m0 ∧ Asc (Fi.l0 kq l0 a1 m0 = some (r1, r2, r3, r4)) ∧ Asc (kq ≤ N1) ∧ Asc (w'.heap[I0]? = some (.cells #[.int .i64 o0, .int .i64 n0, .int .i64 u0] 76 (0, 0))) ∧ Asc (Below w.heap.size w w'))
   case atStart => exact ⟨(0), (0), (0), (0), fr, H', ⟨Nat.le_refl _⟩, ⟨gB a0⟩, ⟨bh HB⟩⟩
   case round =>
    clear H'
    try clear c6
    obtain ⟨m0, o0, n0, u0, rfl, HA, U1, a0, HB⟩ := hrel
    cases gk with
    | zero => exact absurd HA.out (by simp [Fi.l0])
    | succ k2 =>
     have H := HA.out
     clear HA
     simp only [Fi.l0] at H
     by_cases c8 : m0 < (l0.length : Int)
     ·
      rw [if_pos c8] at H
      have Y0 : decide (m0 < (l0.length : Int)) = true := decide_eq_true c8
      clear c8
      revert H
      refine gi (fun i2 H => ?_)
      replace H := Option.bind_eq_some_iff.mp H
      obtain ⟨C1, U0, H⟩ := H
      try dsimp only at H
      have J2 := am_ U0
      clear U0
      by_cases X0 : C1 = true
      ·
       subst X0
       rw [if_pos rfl] at H
       have H' := am_ H
       clear H
       have L0 : 0 ≤ (m0 : Int) := dt
       have M0 : m0 < (l0.length : Int) := dt
       obtain ⟨P1, i1, E0, z0⟩ := at_T28 Q1.out m0 L0 M0
       cases i1
       replace E0 := ce HB E0
       replace z0 := ce HB z0
       replace L0 := eq_true L0
       replace M0 := eq_true M0
       go_wp2_with (first | ((with_reducible refine gate_callee (f := 77) rfl ?_); refine gl_ (some 25) Tryz.func77 #[.agg #[.int .i64 ((rd_T28 l0 m0).f0), .int .i64 ((rd_T28 l0 m0).f1)]] ?_; (with_reducible refine (F1.calls ((rd_T28 l0 m0).f0) ((rd_T28 l0 m0).f1) true _ J2.out).mono ?_); rintro e N2 ⟨rfl, hb⟩; refine ⟨_, rfl, ?_⟩; replace a0 := tBb a0 hb; replace HB := tHb HB hb; (try clear hb)))
       go_roundg k2
       case measure => have := L1.out; have := U1.out; omega
       case rel => exact ⟨(wrap64 (m0 + 1)), (o0), (n0), (u0), fr, H', ⟨by have := L1.out; have := U1.out; omega⟩, ⟨gB a0⟩, ⟨bh HB⟩⟩
      replace X0 := Bool.eq_false_iff.mpr X0
      subst X0
      have H1 : (none) = some (r1, r2, r3, r4) := by rw [if_neg (show ¬ (false = true) by decide)] at H; exact H
      exact absurd H1 (by simp)
     rw [if_neg c8] at H
     have Y0 : decide (m0 < (l0.length : Int)) = false := decide_eq_false c8
     clear c8
     replace H := Option.bind_eq_some_iff.mp H
     obtain ⟨⟨W0, O0⟩, V0, H⟩ := H
     try dsimp only at H
     have C2 := am_ V0
     clear V0
     simp only [Option.some.injEq, Prod.mk.injEq] at H
     obtain ⟨rfl, rfl, rfl, rfl⟩ := H
     go_wp2_with (first | ((with_reducible refine gate_callee (f := 84) rfl ?_); refine gl_ (some 33) Tryz.func84 #[.slice A0 l0.length c0, .agg #[.int .i64 a1, .int .i64 0]] ?_; (with_reducible refine (Fg.calls k2 _ _ l0 a1 0 W0 O0 _ ?P0 ?Q0 C2.out).mono ?_); (case P0 => exact gCB Q1 HB); (case Q0 => exact D2.out); rintro e w16 ⟨rfl, hb⟩; refine ⟨_, rfl, ?_⟩; replace a0 := tBb a0 hb; replace HB := tHb HB hb; (try clear hb); obtain ⟨_, _, _, _, _, _⟩ := bx3 a0))
     refine bodyPost_ret (results_ct rfl _ _ I0 76 #[.int .i64 a1, .int .i64 W0, .int .i64 O0] (0, 0) _ rfl (gP a0 rfl) Tryz.underlying76 rfl (by kernel_rfl)) rfl ?_
     exact ⟨fe, bh HB⟩

def G9.f (a0 : Int) : Option (Int) := (Fm.f a0).bind fun m0 => (if m0 = true then (some (wrap64 ((wrap64 (Int.tdiv (wrap64 (a0 - 1)) 3)) + 1))) else (some 0))
set_option maxHeartbeats 8000000 in
set_option maxRecDepth 100000 in
theorem G9.calls (a0 : Int) (r : Int) (w : World) (h : G9.f a0 = some r) :
  Calls Tryz.prog 32 #[.int .i64 a0] w fun e w' => e = .returned (.int .i64 r) ∧ Drawn0 w w' := by
 have H : ((Fm.f a0).bind fun m0 => (if m0 = true then (some (wrap64 ((wrap64 (Int.tdiv (wrap64 (a0 - 1)) 3)) + 1))) else (some 0))) = some r := h
 clear h
 replace H := Option.bind_eq_some_iff.mp H
 obtain ⟨m0, n0, H⟩ := H
 try dsimp only at H
 have A2 := am_ n0
 clear n0
 by_cases c3 : m0 = true
 ·
  subst c3
  rw [if_pos rfl] at H
  obtain rfl := Option.some.inj H
  go_enter Tryz.func32, Tryz.ntmps32
  go_wp2_with (first | ((with_reducible refine gate_callee (f := 54) rfl ?_); refine gl_ (some 5) Tryz.func54 #[.int .i64 a0] ?_; (with_reducible refine (Fm.calls a0 true _ A2.out).mono ?_); rintro e w' ⟨rfl, ⟨nd, rfl⟩⟩; refine ⟨_, rfl, ?_⟩))
  go_ret
  exact ⟨fr, by repeat (first | exact Drawn0.refl _ | apply Drawn0.step)⟩
 replace c3 := Bool.eq_false_iff.mpr c3
 subst c3
 rw [if_neg (show ¬ (false = true) by decide)] at H
 obtain rfl := Option.some.inj H
 go_enter Tryz.func32, Tryz.ntmps32
 go_wp2_with (first | ((with_reducible refine gate_callee (f := 54) rfl ?_); refine gl_ (some 5) Tryz.func54 #[.int .i64 a0] ?_; (with_reducible refine (Fm.calls a0 false _ A2.out).mono ?_); rintro e w' ⟨rfl, ⟨nd, rfl⟩⟩; refine ⟨_, rfl, ?_⟩))
 go_ret
 exact ⟨fr, by repeat (first | exact Drawn0.refl _ | apply Drawn0.step)⟩

def Fo.l0 : Nat → ByteArray → Int → Int → Int → Option (Int)
 | 0, _, _, _, _ => none
 | k + 1, x0, x1, x5, x6 => if x6 < (wrap64 (x1 + 4)) then (if 0 ≤ x6 then (if x6 < (x0.size : Int) then (Fo.l0 k x0 x1 (wrap64 ((wrap64 (x5 * 256)) + (wrap64 (bt x0 x6)))) (wrap64 (x6 + 1))) else (none)) else (none)) else (some (Int.tmod x5 10007))
def Fo.f (k : Nat) (a0 : ByteArray) (a1 : Int) : Option (Int) := Fo.l0 k a0 a1 0 a1
theorem Fo.mono_l : ∀ k, (∀ y0 y1 y2 y3, LeO (Fo.l0 k y0 y1 y2 y3) (Fo.l0 (k + 1) y0 y1 y2 y3))
 | 0 => fun _ _ _ _ r h => by simp [Fo.l0] at h
 | k + 1 => by
  have a0 := Fo.mono_l k
  ·
   intro y0 y1 y2 y3
   unfold Fo.l0
   repeat' first | (with_reducible first | exact a0 _ _ _ _ | exact LeO.refl _ | exact LeO.none _ | refine LeO.ite ?_ ?_ | refine LeO.bind ?_ (fun _ => ?_)) | exact a0 _ _ _ _ | refine LeO.ite ?_ ?_ | refine LeO.bind ?_ (fun _ => ?_)
theorem Fo.mono : ∀ a0 a1 k, LeO (Fo.f k a0 a1) (Fo.f (k + 1) a0 a1) := by
 intro a0 a1 k
 have m0 := Fo.mono_l k
 unfold Fo.f
 repeat' first | (with_reducible first | exact m0 _ _ _ _ | exact LeO.refl _ | exact LeO.none _ | refine LeO.ite ?_ ?_ | refine LeO.bind ?_ (fun _ => ?_)) | exact m0 _ _ _ _ | refine LeO.ite ?_ ?_ | refine LeO.bind ?_ (fun _ => ?_)
set_option maxHeartbeats 8000000 in
set_option maxRecDepth 100000 in
theorem Fo.calls (k : Nat) (a0 : ByteArray) (a1 : Int) (r : Int) (w : World) (h : Fo.f k a0 a1 = some r) :
  Calls Tryz.prog 87 #[.string a0, .int .i64 a1] w fun e w' => e = .returned (.int .i64 r) ∧ Drawn0 w w' := by
 have H : (Fo.l0 k a0 a1 0 a1) = some r := h
 clear h
 have H' := am_ H
 clear H
 go_enter Tryz.func87, Tryz.ntmps87
 go_wp2
 go_loopg [5, 6] k (fun kq v5 v6 w' => ∃ (n0 : Int) (m0 : Int), v5 = .int .i64 n0 ∧ v6 = .int .i64 m0 ∧ Asc (Fo.l0 kq a0 a1 n0 m0 = some r) ∧ Asc (kq ≤ k) ∧ Drawn0 w w')
 case atStart => exact ⟨(0), (a1), fr, fr, H', ⟨Nat.le_refl _⟩, by repeat (first | exact Drawn0.refl _ | apply Drawn0.step)⟩
 case round =>
  clear H'
  obtain ⟨n0, m0, rfl, rfl, HA, u0, ⟨m1, rfl⟩⟩ := hrel
  cases gk with
  | zero => exact absurd HA.out (by simp [Fo.l0])
  | succ k1 =>
   have H := HA.out
   clear HA
   simp only [Fo.l0] at H
   by_cases c3 : m0 < (wrap64 (a1 + 4))
   ·
    rw [if_pos c3] at H
    have o0 : decide (m0 < (wrap64 (a1 + 4))) = true := decide_eq_true c3
    clear c3
    revert H
    refine gi (fun A0 H => ?_)
    revert H
    refine gi (fun z0 H => ?_)
    have H' := am_ H
    clear H
    have p6 : 0 ≤ (m0 : Int) := dt
    have q6 : m0 < (a0.size : Int) := dt
    have C0 := bt_at a0 m0
    replace p6 := eq_true p6
    replace q6 := eq_true q6
    go_wp2
    go_roundg k1
    case measure => have := u0.out; omega
    case rel => exact ⟨(wrap64 ((wrap64 (n0 * 256)) + (wrap64 (bt a0 m0)))), (wrap64 (m0 + 1)), fr, fr, H', kS u0, by repeat (first | exact Drawn0.refl _ | apply Drawn0.step)⟩
   rw [if_neg c3] at H
   have o0 : decide (m0 < (wrap64 (a1 + 4))) = false := decide_eq_false c3
   clear c3
   obtain rfl := Option.some.inj H
   go_wp2
   go_ret
   exact ⟨fr, by repeat (first | exact Drawn0.refl _ | apply Drawn0.step)⟩

end Go.Proofs.YtopijobdblfhoaaGreat.PTuskAsks
