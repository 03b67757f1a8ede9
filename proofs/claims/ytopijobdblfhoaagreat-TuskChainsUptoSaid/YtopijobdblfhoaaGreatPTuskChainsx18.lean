import Derived.Test.YtopijobdblfhoaaGreatPTuskChainsx0
import Derived.Test.YtopijobdblfhoaaGreatPTuskChainsx12
import Derived.Test.YtopijobdblfhoaaGreatVTuskChainsPj
import Derived.Test.YtopijobdblfhoaaGreatPTuskChainsx5
import Derived.Test.YtopijobdblfhoaaGreatPTuskChainsx1
set_option linter.unusedVariables false
set_option linter.unusedSimpArgs false
/- Printed by a program of this session. -/
namespace Go.Proofs.YtopijobdblfhoaaGreat.PTuskChains
set_option maxHeartbeats 8000000
set_option maxRecDepth 100000
open Go.RowKit Go.Proofs.YtopijobdblfhoaaGreatW.PrintWords Go.Proofs.YtopijobdblfhoaaGreatW.PrintLast Go.Proofs.YtopijobdblfhoaaGreatW.PrintMore
def Gi.f (a0_0 a0_1 : Int) (o0 n0 : Int) : Option (Int × Int) := (F4.f a0_0 a0_1).bind fun A0 => ((F4.f o0 n0).bind fun u0 => (if A0 = true then (if u0 = true then (some (Int.tmod (wrap64 (a0_0 + o0)) 10007, Int.tmod (wrap64 (a0_1 + n0)) 10007)) else (some (0, 0))) else (some (0, 0))))
theorem Gi.calls (a0_0 a0_1 : Int) (I0 L0 : Int) (r1 r2 : Int) (w : World) (h : Gi.f a0_0 a0_1 I0 L0 = some (r1, r2)) :
  Calls Tryz.prog 79 #[.agg #[.int .i64 a0_0, .int .i64 a0_1], .agg #[.int .i64 I0, .int .i64 L0]] w fun e w' => e = .returned (.agg #[.int .i64 r1, .int .i64 r2]) ∧ Below w.heap.size w w' := by
 have C1 := Tryz.underlying28; have HB := am_ (Below.refl w.heap.size w); have H := h; unfold Gi.f at H; clear h; replace H := bi H; obtain ⟨D1, A3, H⟩ := H; try dsimp only at H
 replace H := bi H; obtain ⟨Z0, A4, H⟩ := H; try dsimp only at H
 replace H := ib H; obtain ⟨rfl, H⟩ | ⟨rfl, H⟩ := H
 ·
  replace H := ib H; obtain ⟨rfl, H⟩ | ⟨rfl, H⟩ := H
  ·
   replace H := oi2 H; obtain ⟨rfl, rfl⟩ := H; go_enter Tryz.func79, Tryz.ntmps79
   go_wp2_with (first | (refine bf_ 2 #[.int .i64 a0_0, .int .i64 a0_1] 28 HB ?_; intro X0 hg w7 hb n0 Q0 HB; clear hb hg) | (refine bf_ 3 #[.int .i64 I0, .int .i64 L0] 28 HB ?_; intro V0 hg w8 hb o0 Y0 HB; obtain ⟨E0, M0⟩ := tN n0 hg; replace n0 := tBb n0 hb; clear hb hg) | (refine bf_ 4 #[.int .i64 0, .int .i64 0] 28 HB ?_; intro P0 hg w9 hb u0 U0 HB; obtain ⟨A0, O0⟩ := tN n0 hg; replace n0 := tBb n0 hb; obtain ⟨C0, N0⟩ := tN o0 hg; replace o0 := tBb o0 hb; clear hb hg; have _ := n2 E0; have _ := n2 A0; have _ := bx2 n0) | (refine gl_ (some 8) Tryz.func77 #[.agg #[.int .i64 a0_0, .int .i64 a0_1]] ?_; (with_reducible refine (F4.calls a0_0 a0_1 true _ A3.out).mono ?_); rintro e X1 ⟨rfl, hb⟩; refine ⟨_, rfl, ?_⟩; replace n0 := tBb n0 hb; replace o0 := tBb o0 hb; replace u0 := tBb u0 hb; replace HB := tHb HB hb; (try clear hb); have _ := n2 C0; have _ := bx2 o0) | (refine gl_ (some 10) Tryz.func77 #[.agg #[.int .i64 I0, .int .i64 L0]] ?_; (with_reducible refine (F4.calls I0 L0 true _ A4.out).mono ?_); rintro e w16 ⟨rfl, hb⟩; refine ⟨_, rfl, ?_⟩; replace n0 := tBb n0 hb; replace o0 := tBb o0 hb; replace u0 := tBb u0 hb; replace HB := tHb HB hb; (try clear hb); have _ := bx2 n0; have _ := bx2 o0; have _ := bx2 u0))
   refine bodyPost_ret (results_cell_row rfl _ _ P0 28 #[.int .i64 (Int.tmod (wrap64 (a0_0 + I0)) 10007), .int .i64 (Int.tmod (wrap64 (a0_1 + L0)) 10007)] (0, 0) _ rfl (gP u0 rfl) Tryz.underlying28 rfl (by kernel_rfl)) rfl ?_; exact ⟨fe, bh HB⟩
  replace H := oi2 H; obtain ⟨rfl, rfl⟩ := H; go_enter Tryz.func79, Tryz.ntmps79
  go_wp2_with (first | (refine bf_ 2 #[.int .i64 a0_0, .int .i64 a0_1] 28 HB ?_; intro X0 hg Y1 hb n0 Q0 HB; clear hb hg) | (refine bf_ 3 #[.int .i64 I0, .int .i64 L0] 28 HB ?_; intro V0 hg O1 hb o0 Y0 HB; obtain ⟨E0, M0⟩ := tN n0 hg; replace n0 := tBb n0 hb; clear hb hg) | (refine bf_ 4 #[.int .i64 0, .int .i64 0] 28 HB ?_; intro P0 hg C2 hb u0 U0 HB; obtain ⟨A0, O0⟩ := tN n0 hg; replace n0 := tBb n0 hb; obtain ⟨C0, N0⟩ := tN o0 hg; replace o0 := tBb o0 hb; clear hb hg; have _ := n2 E0; have _ := n2 A0; have _ := bx2 n0) | (refine gl_ (some 8) Tryz.func77 #[.agg #[.int .i64 a0_0, .int .i64 a0_1]] ?_; (with_reducible refine (F4.calls a0_0 a0_1 true _ A3.out).mono ?_); rintro e Z1 ⟨rfl, hb⟩; refine ⟨_, rfl, ?_⟩; replace n0 := tBb n0 hb; replace o0 := tBb o0 hb; replace u0 := tBb u0 hb; replace HB := tHb HB hb; (try clear hb); have _ := n2 C0; have _ := bx2 o0) | (refine gl_ (some 10) Tryz.func77 #[.agg #[.int .i64 I0, .int .i64 L0]] ?_; (with_reducible refine (F4.calls I0 L0 false _ A4.out).mono ?_); rintro e U1 ⟨rfl, hb⟩; refine ⟨_, rfl, ?_⟩; replace n0 := tBb n0 hb; replace o0 := tBb o0 hb; replace u0 := tBb u0 hb; replace HB := tHb HB hb; (try clear hb); have _ := bx2 u0))
  refine bodyPost_ret (results_cell_row rfl _ _ P0 28 #[.int .i64 0, .int .i64 0] (0, 0) _ rfl (gP u0 rfl) Tryz.underlying28 rfl (by kernel_rfl)) rfl ?_; exact ⟨fe, bh HB⟩
 replace H := oi2 H; obtain ⟨rfl, rfl⟩ := H; go_enter Tryz.func79, Tryz.ntmps79
 go_wp2_with (first | (refine bf_ 2 #[.int .i64 a0_0, .int .i64 a0_1] 28 HB ?_; intro X0 hg L1 hb n0 Q0 HB; clear hb hg) | (refine bf_ 3 #[.int .i64 I0, .int .i64 L0] 28 HB ?_; intro V0 hg Q1 hb o0 Y0 HB; obtain ⟨E0, M0⟩ := tN n0 hg; replace n0 := tBb n0 hb; clear hb hg) | (refine bf_ 4 #[.int .i64 0, .int .i64 0] 28 HB ?_; intro P0 hg N1 hb u0 U0 HB; obtain ⟨A0, O0⟩ := tN n0 hg; replace n0 := tBb n0 hb; obtain ⟨C0, N0⟩ := tN o0 hg; replace o0 := tBb o0 hb; clear hb hg; have _ := n2 E0; have _ := n2 A0; have _ := bx2 n0) | (refine gl_ (some 8) Tryz.func77 #[.agg #[.int .i64 a0_0, .int .i64 a0_1]] ?_; (with_reducible refine (F4.calls a0_0 a0_1 false _ A3.out).mono ?_); rintro e V1 ⟨rfl, hb⟩; refine ⟨_, rfl, ?_⟩; replace n0 := tBb n0 hb; replace o0 := tBb o0 hb; replace u0 := tBb u0 hb; replace HB := tHb HB hb; (try clear hb); have _ := n2 C0; have _ := bx2 o0) | (refine gl_ (some 10) Tryz.func77 #[.agg #[.int .i64 I0, .int .i64 L0]] ?_; (with_reducible refine (F4.calls I0 L0 Z0 _ A4.out).mono ?_); rintro e P1 ⟨rfl, hb⟩; refine ⟨_, rfl, ?_⟩; replace n0 := tBb n0 hb; replace o0 := tBb o0 hb; replace u0 := tBb u0 hb; replace HB := tHb HB hb; (try clear hb); have _ := bx2 u0))
 refine bodyPost_ret (results_cell_row rfl _ _ P0 28 #[.int .i64 0, .int .i64 0] (0, 0) _ rfl (gP u0 rfl) Tryz.underlying28 rfl (by kernel_rfl)) rfl ?_; exact ⟨fe, bh HB⟩

def G3.f (a0_0 a0_1 : Int) (o0 n0 : Int) : Option (Int × Int) := (F4.f a0_0 a0_1).bind fun A0 => ((F4.f o0 n0).bind fun u0 => (if A0 = true then (if u0 = true then (some (Int.tmod (wrap64 ((wrap64 ((wrap64 (a0_0 * o0)) + 100140049)) - (wrap64 (a0_1 * n0)))) 10007, Int.tmod (wrap64 ((wrap64 (a0_0 * n0)) + (wrap64 (a0_1 * o0)))) 10007)) else (some (0, 0))) else (some (0, 0))))
theorem G3.calls (a0_0 a0_1 : Int) (I0 L0 : Int) (r1 r2 : Int) (w : World) (h : G3.f a0_0 a0_1 I0 L0 = some (r1, r2)) :
  Calls Tryz.prog 80 #[.agg #[.int .i64 a0_0, .int .i64 a0_1], .agg #[.int .i64 I0, .int .i64 L0]] w fun e w' => e = .returned (.agg #[.int .i64 r1, .int .i64 r2]) ∧ Below w.heap.size w w' := by
 have D1 := Tryz.underlying28; have HB := am_ (Below.refl w.heap.size w); have H := h; unfold G3.f at H; clear h; replace H := bi H; obtain ⟨C1, A3, H⟩ := H; try dsimp only at H
 replace H := bi H; obtain ⟨Z0, A4, H⟩ := H; try dsimp only at H
 replace H := ib H; obtain ⟨rfl, H⟩ | ⟨rfl, H⟩ := H
 ·
  replace H := ib H; obtain ⟨rfl, H⟩ | ⟨rfl, H⟩ := H
  ·
   replace H := oi2 H; obtain ⟨rfl, rfl⟩ := H; go_enter Tryz.func80, Tryz.ntmps80
   go_wp2_with (first | (refine bf_ 2 #[.int .i64 a0_0, .int .i64 a0_1] 28 HB ?_; intro Q0 hg w7 hb n0 X0 HB; clear hb hg) | (refine bf_ 3 #[.int .i64 I0, .int .i64 L0] 28 HB ?_; intro Y0 hg w8 hb o0 V0 HB; obtain ⟨C0, O0⟩ := tN n0 hg; replace n0 := tBb n0 hb; clear hb hg) | (refine bf_ 4 #[.int .i64 0, .int .i64 0] 28 HB ?_; intro P0 hg w9 hb u0 U0 HB; obtain ⟨A0, M0⟩ := tN n0 hg; replace n0 := tBb n0 hb; obtain ⟨E0, N0⟩ := tN o0 hg; replace o0 := tBb o0 hb; clear hb hg; have _ := n2 C0; have _ := n2 A0; have _ := bx2 n0) | (refine gl_ (some 8) Tryz.func77 #[.agg #[.int .i64 a0_0, .int .i64 a0_1]] ?_; (with_reducible refine (F4.calls a0_0 a0_1 true _ A3.out).mono ?_); rintro e X1 ⟨rfl, hb⟩; refine ⟨_, rfl, ?_⟩; replace n0 := tBb n0 hb; replace o0 := tBb o0 hb; replace u0 := tBb u0 hb; replace HB := tHb HB hb; (try clear hb); have _ := n2 E0; have _ := bx2 o0) | (refine gl_ (some 10) Tryz.func77 #[.agg #[.int .i64 I0, .int .i64 L0]] ?_; (with_reducible refine (F4.calls I0 L0 true _ A4.out).mono ?_); rintro e w16 ⟨rfl, hb⟩; refine ⟨_, rfl, ?_⟩; replace n0 := tBb n0 hb; replace o0 := tBb o0 hb; replace u0 := tBb u0 hb; replace HB := tHb HB hb; (try clear hb); have _ := bx2 n0; have _ := bx2 o0; have _ := bx2 u0))
   refine bodyPost_ret (results_cell_row rfl _ _ P0 28 #[.int .i64 (Int.tmod (wrap64 ((wrap64 ((wrap64 (a0_0 * I0)) + 100140049)) - (wrap64 (a0_1 * L0)))) 10007), .int .i64 (Int.tmod (wrap64 ((wrap64 (a0_0 * L0)) + (wrap64 (a0_1 * I0)))) 10007)] (0, 0) _ rfl (gP u0 rfl) Tryz.underlying28 rfl (by kernel_rfl)) rfl ?_; exact ⟨fe, bh HB⟩
  replace H := oi2 H; obtain ⟨rfl, rfl⟩ := H; go_enter Tryz.func80, Tryz.ntmps80
  go_wp2_with (first | (refine bf_ 2 #[.int .i64 a0_0, .int .i64 a0_1] 28 HB ?_; intro Q0 hg Y1 hb n0 X0 HB; clear hb hg) | (refine bf_ 3 #[.int .i64 I0, .int .i64 L0] 28 HB ?_; intro Y0 hg O1 hb o0 V0 HB; obtain ⟨C0, O0⟩ := tN n0 hg; replace n0 := tBb n0 hb; clear hb hg) | (refine bf_ 4 #[.int .i64 0, .int .i64 0] 28 HB ?_; intro P0 hg C2 hb u0 U0 HB; obtain ⟨A0, M0⟩ := tN n0 hg; replace n0 := tBb n0 hb; obtain ⟨E0, N0⟩ := tN o0 hg; replace o0 := tBb o0 hb; clear hb hg; have _ := n2 C0; have _ := n2 A0; have _ := bx2 n0) | (refine gl_ (some 8) Tryz.func77 #[.agg #[.int .i64 a0_0, .int .i64 a0_1]] ?_; (with_reducible refine (F4.calls a0_0 a0_1 true _ A3.out).mono ?_); rintro e Z1 ⟨rfl, hb⟩; refine ⟨_, rfl, ?_⟩; replace n0 := tBb n0 hb; replace o0 := tBb o0 hb; replace u0 := tBb u0 hb; replace HB := tHb HB hb; (try clear hb); have _ := n2 E0; have _ := bx2 o0) | (refine gl_ (some 10) Tryz.func77 #[.agg #[.int .i64 I0, .int .i64 L0]] ?_; (with_reducible refine (F4.calls I0 L0 false _ A4.out).mono ?_); rintro e U1 ⟨rfl, hb⟩; refine ⟨_, rfl, ?_⟩; replace n0 := tBb n0 hb; replace o0 := tBb o0 hb; replace u0 := tBb u0 hb; replace HB := tHb HB hb; (try clear hb); have _ := bx2 u0))
  refine bodyPost_ret (results_cell_row rfl _ _ P0 28 #[.int .i64 0, .int .i64 0] (0, 0) _ rfl (gP u0 rfl) Tryz.underlying28 rfl (by kernel_rfl)) rfl ?_; exact ⟨fe, bh HB⟩
 replace H := oi2 H; obtain ⟨rfl, rfl⟩ := H; go_enter Tryz.func80, Tryz.ntmps80
 go_wp2_with (first | (refine bf_ 2 #[.int .i64 a0_0, .int .i64 a0_1] 28 HB ?_; intro Q0 hg L1 hb n0 X0 HB; clear hb hg) | (refine bf_ 3 #[.int .i64 I0, .int .i64 L0] 28 HB ?_; intro Y0 hg Q1 hb o0 V0 HB; obtain ⟨C0, O0⟩ := tN n0 hg; replace n0 := tBb n0 hb; clear hb hg) | (refine bf_ 4 #[.int .i64 0, .int .i64 0] 28 HB ?_; intro P0 hg N1 hb u0 U0 HB; obtain ⟨A0, M0⟩ := tN n0 hg; replace n0 := tBb n0 hb; obtain ⟨E0, N0⟩ := tN o0 hg; replace o0 := tBb o0 hb; clear hb hg; have _ := n2 C0; have _ := n2 A0; have _ := bx2 n0) | (refine gl_ (some 8) Tryz.func77 #[.agg #[.int .i64 a0_0, .int .i64 a0_1]] ?_; (with_reducible refine (F4.calls a0_0 a0_1 false _ A3.out).mono ?_); rintro e V1 ⟨rfl, hb⟩; refine ⟨_, rfl, ?_⟩; replace n0 := tBb n0 hb; replace o0 := tBb o0 hb; replace u0 := tBb u0 hb; replace HB := tHb HB hb; (try clear hb); have _ := n2 E0; have _ := bx2 o0) | (refine gl_ (some 10) Tryz.func77 #[.agg #[.int .i64 I0, .int .i64 L0]] ?_; (with_reducible refine (F4.calls I0 L0 Z0 _ A4.out).mono ?_); rintro e P1 ⟨rfl, hb⟩; refine ⟨_, rfl, ?_⟩; replace n0 := tBb n0 hb; replace o0 := tBb o0 hb; replace u0 := tBb u0 hb; replace HB := tHb HB hb; (try clear hb); have _ := bx2 u0))
 refine bodyPost_ret (results_cell_row rfl _ _ P0 28 #[.int .i64 0, .int .i64 0] (0, 0) _ rfl (gP u0 rfl) Tryz.underlying28 rfl (by kernel_rfl)) rfl ?_; exact ⟨fe, bh HB⟩

def Fg.l0 : Nat → List (S28) → Int → Int → Int → Int → Int → Option (Int × Int)
 | 0, _, _, _, _, _, _ => none
 | k + 1, x0, x6, n0, o0, A0, u0 => if x6 ≥ 0 then ((G3.f A0 u0 n0 o0).bind fun C0 => (if 0 ≤ x6 then (if x6 < (x0.length : Int) then ((Gi.f C0.1 C0.2 ((Qb8 x0 x6).f0) ((Qb8 x0 x6).f1)).bind fun E0 => (Fg.l0 k x0 (wrap64 (x6 - 1)) n0 o0 E0.1 E0.2)) else (none)) else (none))) else (some (A0, u0))
def Fg.f (k : Nat) (l0 : List (S28)) (o0 n0 : Int) : Option (Int × Int) := Fg.l0 k l0 (wrap64 ((l0.length : Int) - 1)) o0 n0 0 0
theorem Fg.mono_l : ∀ k, (∀ y0 y1 y2 y3 y4 y5, LeO (Fg.l0 k y0 y1 y2 y3 y4 y5) (Fg.l0 (k + 1) y0 y1 y2 y3 y4 y5))
 | 0 => fun _ _ _ _ _ _ r h => by simp [Fg.l0] at h
 | k + 1 => by
  have n0 := Fg.mono_l k
  ·
   intro y0 y1 y2 y3 y4 y5; unfold Fg.l0; repeat' first | (with_reducible first | exact n0 _ _ _ _ _ _ | exact LeO.refl _ | exact LeO.none _ | refine LeO.ite ?_ ?_ | refine LeO.bind ?_ (fun _ => ?_)) | exact n0 _ _ _ _ _ _ | refine LeO.ite ?_ ?_ | refine LeO.bind ?_ (fun _ => ?_)
theorem Fg.mono : ∀ a0 a1 a2 k, LeO (Fg.f k a0 a1 a2) (Fg.f (k + 1) a0 a1 a2) := by
 intro a0 a1 a2 k; have n0 := Fg.mono_l k; unfold Fg.f; repeat' first | (with_reducible first | exact n0 _ _ _ _ _ _ | exact LeO.refl _ | exact LeO.none _ | refine LeO.ite ?_ ?_ | refine LeO.bind ?_ (fun _ => ?_)) | exact n0 _ _ _ _ _ _ | refine LeO.ite ?_ ?_ | refine LeO.bind ?_ (fun _ => ?_)
def Fg.T5 : Bool × List (List Nat × List Nat) := (true, [([], []), ([], []), ([0, 1], [0, 1]), ([], []), ([], []), ([3, 4], [3, 4]), ([5], [5]), ([2, 6, 2], [2, 6]), ([7, 7, 0, 1, 2, 3, 4, 5, 6, 7], [7])])
def Fg.B5 : List Nat := [0, 0, 3, 0, 0, 24, 56, 127, 255]
theorem Fg.tab5 : Qcp .any (opsOf Tryz.f84 5) = Fg.T5 := by kernel_rfl
theorem Fg.bits5 : Qbi Fg.T5.2 Fg.B5 = true := by kernel_rfl
theorem Fg.calls (k : Nat) (A0 : Option Addr) (c0 : Nat) (l0 : List (S28)) (X0 Y0 : Int) (r1 r2 : Int) (w : World) (S3 : Kd.C k28 w A0 l0.length l0) (Q3 : l0.length ≤ c0) (h : Fg.f k l0 X0 Y0 = some (r1, r2)) :
  Calls Tryz.prog 84 #[.slice A0 l0.length c0, .agg #[.int .i64 X0, .int .i64 Y0]] w fun e w' => e = .returned (.agg #[.int .i64 r1, .int .i64 r2]) ∧ Below w.heap.size w w' := by
 have Z3 := Tryz.underlying28; have s4 := am_ S3; have C4 := am_ Q3; clear S3 Q3; have HB := am_ (Below.refl w.heap.size w); have H := h; unfold Fg.f at H; clear h; have H' := am_ H; clear H; go_enter Tryz.func84, Tryz.ntmps84
 go_wp2_with (first | (refine bf_ 3 #[.int .i64 X0, .int .i64 Y0] 28 HB ?_; intro V1 hg w3 hb o0 L3 HB; clear hb hg) | (refine bf_ 4 #[.int .i64 0, .int .i64 0] 28 HB ?_; intro D1 hg w4 hb E0 C3 HB; obtain ⟨Q1, Z0⟩ := tN o0 hg; replace o0 := tBb o0 hb; clear hb hg) | (refine bf_ 5 #[.int .i64 0, .int .i64 0] 28 HB ?_; intro C1 hg w5 hb n0 U3 HB; obtain ⟨Q0, I0⟩ := tN o0 hg; replace o0 := tBb o0 hb; obtain ⟨P0, L0⟩ := tN E0 hg; replace E0 := tBb E0 hb; clear hb hg; have _ := n2 I0; have _ := n2 L0; obtain ⟨Z2, Y2, k3, s3⟩ := bx2 n0))
 go_loopg [6] k (fun kq v6 w' => ∃ (M0 : Int) (u0 : Int) (C0 : Int), v6 = .int .i64 M0 ∧ Asc (Fg.l0 kq l0 M0 X0 Y0 u0 C0 = some (r1, r2)) ∧ Asc (kq ≤ k) ∧ Asc (w'.heap[V1]? = some (.cells #[.int .i64 X0, .int .i64 Y0] 28 (0, 0))) ∧ Asc (w'.heap[D1]? = some (.cells #[.int .i64 0, .int .i64 0] 28 (0, 0))) ∧ Asc (w'.heap[C1]? = some (.cells #[.int .i64 u0, .int .i64 C0] 28 (0, 0))) ∧ Asc (Below w.heap.size w w'))
 case atStart => exact ⟨(wrap64 ((l0.length : Int) - 1)), (0), (0), fr, H', ⟨Nat.le_refl _⟩, ⟨gB o0⟩, ⟨gB E0⟩, ⟨gP n0 rfl⟩, ⟨bh HB⟩⟩
 case round =>
  clear H'; try clear Z2 Y2 k3 s3
  obtain ⟨M0, u0, C0, rfl, HA, D3, o0, E0, n0, HB⟩ := hrel
  cases gk with
  | zero => exact absurd HA.out (by simp [Fg.l0])
  | succ k1 =>
   have H := HA.out; clear HA; simp only [Fg.l0] at H
   by_cases c9 : M0 ≥ 0
   ·
    rw [if_pos c9] at H; have m3 : decide (0 ≤ M0) = true := dT c9; clear c9; replace H := bi H; obtain ⟨⟨O1, L1⟩, m4, H⟩ := H; try dsimp only at H
    revert H; refine gi (fun I3 H => ?_); revert H; refine gi (fun u3 H => ?_); replace H := bi H; obtain ⟨⟨U1, X1⟩, u4, H⟩ := H; try dsimp only at H
    have H' := am_ H; clear H; try go_wp2
    replace o0 := am_ (Qag o0.out); replace E0 := am_ (Qag E0.out); replace n0 := am_ (Qag n0.out); replace HB := am_ (Qaj HB.out); have P1 : 0 ≤ (M0 : Int) := dt; have N1 : M0 < (l0.length : Int) := dt; obtain ⟨J3, V2, N0, O0⟩ := Qp9 s4.out M0 P1 N1; have U0 := O0; have V0 := N0; cases V2; replace N0 := ce HB N0; replace O0 := ce HB O0; replace P1 := eq_true P1; replace N1 := eq_true N1; refine st_ 9 [8] (k2_ n0 (k2_ o0 (cd_ (ce HB (by first | exact V0)) (cd_ (ce HB (by first | exact U0)) ct)))) (fun hHeld => ?_); refine Qav Fg.tab5 Fg.bits5 (fun HT_ HW_ => ?_); generalize wr.drew = D4 at o0 E0 n0 HB N0 O0 hHeld ⊢; refine pu_ 3 (some 18) 8 HT_ (h := ?_); refine pu_ 4 (some 19) 24 HT_ (h := ?_); refine pu_ 5 (some 20) 56 HT_ (h := ?_); refine tk_ 0 (some 15) 57 HT_ HW_ hHeld (h := ?_); refine tk_ 1 (some 16) 59 HT_ HW_ hHeld (h := ?_); refine tk_ 6 (some 21) 123 HT_ HW_ hHeld (h := ?_); refine on_ 2 (some 17) 127 HT_ (fun K hK => ?_); refine Qdo Tryz.func80 #[.agg #[.int .i64 u0, .int .i64 C0], .agg #[.int .i64 X0, .int .i64 Y0]] ?_
    with_reducible refine (G3.calls u0 C0 X0 Y0 O1 L1 _ m4.out).mono ?_
    rintro e E4 ⟨rfl, hb⟩; refine ⟨_, rfl, ?_⟩; replace o0 := tBb o0 hb; replace E0 := tBb E0 hb; replace n0 := tBb n0 hb; replace HB := tHb HB hb
    (try clear hb)
    (try clear k4)
    (try clear hk)
    (try clear hi)
    refine hK.out _ _ (m2_ n0 (m2_ o0 (m0_ (ce HB (by first | exact V0)) (m0_ (ce HB (by first | exact U0)) ct)))) (fun hHeld => ?_); clear hK K; refine Qbb (a' := ?_) ?_ ?_; rotate_left
    ·
     show Act.put _ (some 17) _ = _; exact pt_
    refine on_ 7 (some 22) 255 HT_ (fun K hK => ?_); refine Qdo Tryz.func79 #[.agg #[.int .i64 O1, .int .i64 L1], .agg #[.int .i64 ((Qb8 l0 M0).f0), .int .i64 ((Qb8 l0 M0).f1)]] ?_
    with_reducible refine (Gi.calls O1 L1 ((Qb8 l0 M0).f0) ((Qb8 l0 M0).f1) U1 X1 _ u4.out).mono ?_
    rintro e w16 ⟨rfl, hb⟩; refine ⟨_, rfl, ?_⟩; replace o0 := tBb o0 hb; replace E0 := tBb E0 hb; replace n0 := tBb n0 hb; replace HB := tHb HB hb
    (try clear hb)
    (try clear k4)
    (try clear hk)
    (try clear hi)
    refine hK.out _ _ (m2_ n0 (m2_ o0 (m0_ (ce HB (by first | exact V0)) (m0_ (ce HB (by first | exact U0)) ct)))) (fun hHeld => ?_); clear hK K; refine Qbb (a' := ?_) ?_ ?_; rotate_left
    ·
     show Act.put _ (some 22) _ = _; exact pt_
    refine Qe2 (i := 8) (N := none) #[true, true, true, true, true, true, true, true, true] rfl rfl (Qe0 HT_.out (by kernel_rfl)) (by decide) (fun K hK => ?_); have X3 : w16.cell? ⟨C1, 0, none⟩ = some (.int .i64 u0) := (Qaa n0.out 0).trans rfl; have V3 := Qad n0.out 0; have Q2 := Q0.out; have C2 := P0.out; have Y1 := I0.out; have J2 := L0.out; have Y3 : w16.cell? ⟨C1, 1, none⟩ = some (.int .i64 C0) := (Qaa n0.out 1).trans rfl; have N3 := Qad n0.out 1; have N2 := Q0.out; have D2 := P0.out; have Z1 := I0.out; have L2 := L0.out; refine Qiv (w1 := ?_) (by rfl) rfl ?_ ?_; rotate_left
    ·
     go_simp; rfl
    refine hK.out _ _ ?_; clear hK K; refine Qbt (Qbc HT_.out (by kernel_rfl)) ?_; try go_wp2
    go_roundg k1
    case measure => have := D3.out; omega
    case rel => exact ⟨(wrap64 (M0 - 1)), (U1), (X1), fr, H', kS D3, ⟨gB o0⟩, ⟨gB E0⟩, ⟨gP n0 rfl⟩, ⟨bh HB⟩⟩
   rw [if_neg c9] at H; have m3 : decide (0 ≤ M0) = false := dF c9; clear c9; replace H := oi2 H; obtain ⟨rfl, rfl⟩ := H; have _ := n2 I0; have _ := n2 L0; have _ := bx2 n0; have _ := n2 Z0; have _ := bx2 E0; go_wp2; refine bodyPost_ret (results_cell_row rfl _ _ D1 28 #[.int .i64 u0, .int .i64 C0] (0, 0) _ rfl (gP E0 rfl) Tryz.underlying28 rfl (by kernel_rfl)) rfl ?_; exact ⟨fe, bh HB⟩

mutual
def Fj.j0 : Nat → List (S28) → Int → Bool → Option (Int × Int × Int × Int)
 | 0, _, _, _ => none
 | k + 1, x0, x1, n0 => if n0 = true then (none) else (Fj.l0 k x0 x1 0)
def Fj.l0 : Nat → List (S28) → Int → Int → Option (Int × Int × Int × Int)
 | 0, _, _, _ => none
 | k + 1, x0, x1, x6 => if x6 < (x0.length : Int) then (if 0 ≤ x6 then ((F4.f ((Qb8 x0 x6).f0) ((Qb8 x0 x6).f1)).bind fun o0 => (if o0 = true then (Fj.l0 k x0 x1 (wrap64 (x6 + 1))) else (none))) else (none)) else ((Fg.f k x0 x1 0).bind fun n0 => (some (x1, n0.1, n0.2, 0)))
end
def Fj.f (k : Nat) (l0 : List (S28)) (a1 : Int) : Option (Int × Int × Int × Int) := if a1 < 1 then (none) else (Fj.j0 k l0 a1 (decide (a1 > 64)))
theorem Fj.mono_l : ∀ k, (∀ y0 y1 y2, LeO (Fj.j0 k y0 y1 y2) (Fj.j0 (k + 1) y0 y1 y2)) ∧ (∀ y0 y1 y2, LeO (Fj.l0 k y0 y1 y2) (Fj.l0 (k + 1) y0 y1 y2))
 | 0 => ⟨fun _ _ _ r h => by simp [Fj.j0] at h, fun _ _ _ r h => by simp [Fj.l0] at h⟩
 | k + 1 => by
  obtain ⟨o0, n0⟩ := Fj.mono_l k; refine ⟨?_, ?_⟩
  ·
   intro y0 y1 y2; unfold Fj.j0; repeat' first | (with_reducible first | exact o0 _ _ _ | exact n0 _ _ _ | apply Fg.mono | exact LeO.refl _ | exact LeO.none _ | refine LeO.ite ?_ ?_ | refine LeO.bind ?_ (fun _ => ?_)) | exact o0 _ _ _ | exact n0 _ _ _ | refine LeO.ite ?_ ?_ | refine LeO.bind ?_ (fun _ => ?_)
  intro y0 y1 y2; unfold Fj.l0; repeat' first | (with_reducible first | exact o0 _ _ _ | exact n0 _ _ _ | apply Fg.mono | exact LeO.refl _ | exact LeO.none _ | refine LeO.ite ?_ ?_ | refine LeO.bind ?_ (fun _ => ?_)) | exact o0 _ _ _ | exact n0 _ _ _ | refine LeO.ite ?_ ?_ | refine LeO.bind ?_ (fun _ => ?_)
theorem Fj.mono : ∀ a0 a1 k, LeO (Fj.f k a0 a1) (Fj.f (k + 1) a0 a1) := by
 intro a0 a1 k; obtain ⟨o0, n0⟩ := Fj.mono_l k; unfold Fj.f; repeat' first | (with_reducible first | exact o0 _ _ _ | exact n0 _ _ _ | apply Fg.mono | exact LeO.refl _ | exact LeO.none _ | refine LeO.ite ?_ ?_ | refine LeO.bind ?_ (fun _ => ?_)) | exact o0 _ _ _ | exact n0 _ _ _ | refine LeO.ite ?_ ?_ | refine LeO.bind ?_ (fun _ => ?_)
theorem Fj.calls (k : Nat) (A0 : Option Addr) (c0 : Nat) (l0 : List (S28)) (a1 r1 : Int) (r2 r3 r4 : Int) (w : World) (X1 : Kd.C k28 w A0 l0.length l0) (U1 : l0.length ≤ c0) (h : Fj.f k l0 a1 = some (r1, r2, r3, r4)) :
  Calls Tryz.prog 64 #[.slice A0 l0.length c0, .int .i64 a1] w fun e w' => e = .returned (.tuple #[.agg #[.int .i64 r1, .int .i64 r2, .int .i64 r3], .int .i64 r4]) ∧ Below w.heap.size w w' := by
 have N2 := Tryz.underlying76; have J2 := Tryz.underlying28; have Y1 := am_ X1; have C2 := am_ U1; clear X1 U1; have HB := am_ (Below.refl w.heap.size w); have H := h; unfold Fj.f at H; clear h; have L1 := am_ H; clear H; go_enter Tryz.func64, Tryz.ntmps64
 go_upto_region 1 with (first | (refine bf_ 4 #[.int .i64 0, .int .i64 0, .int .i64 0] 76 HB ?_; intro N0 hg w4 hb n0 O1 HB; clear hb hg))
 (try simp only [Act.put, List.setIfInBounds_toArray, List.set_cons_zero, List.set_cons_succ])
 go_cut [13] (fun Q2 wc => ∃ (kq : Nat) (M0 : Bool), Q2 = .bool M0 ∧ Asc (Fj.j0 kq l0 a1 M0 = some (r1, r2, r3, r4)) ∧ Asc (kq ≤ k) ∧ Asc (wc.heap[N0]? = some (.cells #[.int .i64 0, .int .i64 0, .int .i64 0] 76 (0, 0))) ∧ Asc (Below w.heap.size w wc))
 case first =>
  have H := L1.out; clear L1
  by_cases c5 : a1 < 1
  ·
   rw [if_pos c5] at H; exact absurd H (by simp)
  rw [if_neg c5] at H; have U0 := dF c5; clear c5
  (first | rw [U0] | (simp only [Qay, Qa3]; rw [U0]) | skip)
  have H' := am_ H; clear H; go_wp2
  go_meet
  case rel => exact ⟨_, (decide (a1 > 64)), fr, H', ⟨by first | omega | exact Nat.le_refl _⟩, ⟨gB n0⟩, ⟨bh HB⟩⟩
 case rest =>
  clear L1; obtain ⟨kq, M0, rfl, HA, V1, n0, HB⟩ := hcut
  cases kq with
  | zero => exact absurd HA.out (by simp [Fj.j0])
  | succ Z1 =>
   have H := HA.out; clear HA; simp only [Fj.j0] at H
   by_cases c6 : M0 = true
   ·
    subst c6; have H1 : (none) = some (r1, r2, r3, r4) := by rw [if_pos rfl] at H; exact H
    exact absurd H1 (by simp)
   replace c6 := Bool.eq_false_iff.mpr c6; subst c6; rw [if_neg (show ¬ (false = true) by decide)] at H; have H' := am_ H; clear H; go_wp2
   go_loopg [6] Z1 (fun kq v6 w' => ∃ (E0 : Int) (C0 : Int) (o0 : Int) (u0 : Int), v6 = .int .i64 E0 ∧ Asc (Fj.l0 kq l0 a1 E0 = some (r1, r2, r3, r4)) ∧ Asc (kq ≤ Z1) ∧ Asc (w'.heap[N0]? = some (.cells #[.int .i64 C0, .int .i64 o0, .int .i64 u0] 76 (0, 0))) ∧ Asc (Below w.heap.size w w'))
   case atStart => exact ⟨(0), (0), (0), (0), fr, H', ⟨Nat.le_refl _⟩, ⟨gB n0⟩, ⟨bh HB⟩⟩
   case round =>
    clear H'; try clear c6
    obtain ⟨E0, C0, o0, u0, rfl, HA, Q1, n0, HB⟩ := hrel
    cases gk with
    | zero => exact absurd HA.out (by simp [Fj.l0])
    | succ k2 =>
     have H := HA.out; clear HA; simp only [Fj.l0] at H
     by_cases c8 : E0 < (l0.length : Int)
     ·
      rw [if_pos c8] at H; have N1 := dT c8; clear c8; revert H; refine gi (fun L2 H => ?_); replace H := bi H; obtain ⟨C1, V2, H⟩ := H; try dsimp only at H
      by_cases Z0 : C1 = true
      ·
       subst Z0; rw [if_pos rfl] at H; have H' := am_ H; clear H; have P0 : 0 ≤ (E0 : Int) := dt; have O0 : E0 < (l0.length : Int) := dt; obtain ⟨P1, D1, I0, L0⟩ := Qp9 Y1.out E0 P0 O0; cases D1; replace I0 := ce HB I0; replace L0 := ce HB L0; replace P0 := eq_true P0; replace O0 := eq_true O0
       go_wp2_with (first | (refine gl_ (some 25) Tryz.func77 #[.agg #[.int .i64 ((Qb8 l0 E0).f0), .int .i64 ((Qb8 l0 E0).f1)]] ?_; (with_reducible refine (F4.calls ((Qb8 l0 E0).f0) ((Qb8 l0 E0).f1) true _ V2.out).mono ?_); rintro e Y2 ⟨rfl, hb⟩; refine ⟨_, rfl, ?_⟩; replace n0 := tBb n0 hb; replace HB := tHb HB hb; (try clear hb)))
       go_roundg k2
       case measure => have := V1.out; have := Q1.out; omega
       case rel => exact ⟨(wrap64 (E0 + 1)), (C0), (o0), (u0), fr, H', ⟨by have := V1.out; have := Q1.out; omega⟩, ⟨gB n0⟩, ⟨bh HB⟩⟩
      replace Z0 := Bool.eq_false_iff.mpr Z0; subst Z0; have H1 : (none) = some (r1, r2, r3, r4) := by rw [if_neg (show ¬ (false = true) by decide)] at H; exact H
      exact absurd H1 (by simp)
     rw [if_neg c8] at H; have N1 := dF c8; clear c8; replace H := bi H; obtain ⟨⟨X0, Q0⟩, D2, H⟩ := H; try dsimp only at H
     replace H := oi4 H; obtain ⟨rfl, rfl, rfl, rfl⟩ := H
     go_wp2_with (first | (refine gl_ (some 33) Tryz.func84 #[.slice A0 l0.length c0, .agg #[.int .i64 a1, .int .i64 0]] ?_; (with_reducible refine (Fg.calls k2 _ _ l0 a1 0 X0 Q0 _ ?Y0 ?V0 D2.out).mono ?_); (case Y0 => exact gCB Y1 HB); (case V0 => exact C2.out); rintro e w16 ⟨rfl, hb⟩; refine ⟨_, rfl, ?_⟩; replace n0 := tBb n0 hb; replace HB := tHb HB hb; (try clear hb); have _ := bx3 n0))
     refine bodyPost_ret (Qak rfl _ _ N0 76 #[.int .i64 a1, .int .i64 X0, .int .i64 Q0] (0, 0) _ rfl (gP n0 rfl) Tryz.underlying76 rfl (by kernel_rfl)) rfl ?_; exact ⟨fe, bh HB⟩

def Gc.f (a0 : Int) : Option (Int) := (Fv.f a0).bind fun n0 => (if n0 = true then (some (wrap64 ((wrap64 (Int.tdiv (wrap64 (a0 - 1)) 3)) + 1))) else (some 0))
theorem Gc.calls (a0 r : Int) (w : World) (h : Gc.f a0 = some r) :
  Calls Tryz.prog 32 #[.int .i64 a0] w fun e w' => e = .returned (.int .i64 r) ∧ Qae w w' := by
 have H := h; unfold Gc.f at H; clear h; replace H := bi H; obtain ⟨n0, A2, H⟩ := H; try dsimp only at H
 replace H := ib H; obtain ⟨rfl, H⟩ | ⟨rfl, H⟩ := H
 ·
  obtain rfl := Option.some.inj H; go_enter Tryz.func32, Tryz.ntmps32
  go_wp2_with (first | (refine gl_ (some 5) Tryz.func54 #[.int .i64 a0] ?_; (with_reducible refine (Fv.calls a0 true _ A2.out).mono ?_); rintro e w' ⟨rfl, ⟨nd, rfl⟩⟩; refine ⟨_, rfl, ?_⟩))
  go_ret; exact ⟨fr, by repeat (first | exact Qae.refl _ | apply Qae.step)⟩
 obtain rfl := Option.some.inj H; go_enter Tryz.func32, Tryz.ntmps32
 go_wp2_with (first | (refine gl_ (some 5) Tryz.func54 #[.int .i64 a0] ?_; (with_reducible refine (Fv.calls a0 false _ A2.out).mono ?_); rintro e w' ⟨rfl, ⟨nd, rfl⟩⟩; refine ⟨_, rfl, ?_⟩))
 go_ret; exact ⟨fr, by repeat (first | exact Qae.refl _ | apply Qae.step)⟩

def Fq.l0 : Nat → ByteArray → Int → Int → Int → Option (Int)
 | 0, _, _, _, _ => none
 | k + 1, x0, x1, x5, x6 => if x6 < (wrap64 (x1 + 4)) then (if 0 ≤ x6 then (if x6 < (x0.size : Int) then (Fq.l0 k x0 x1 (wrap64 ((wrap64 (x5 * 256)) + (wrap64 (bt x0 x6)))) (wrap64 (x6 + 1))) else (none)) else (none)) else (some (Int.tmod x5 10007))
def Fq.f (k : Nat) (a0 : ByteArray) (a1 : Int) : Option (Int) := Fq.l0 k a0 a1 0 a1
theorem Fq.mono_l : ∀ k, (∀ y0 y1 y2 y3, LeO (Fq.l0 k y0 y1 y2 y3) (Fq.l0 (k + 1) y0 y1 y2 y3))
 | 0 => fun _ _ _ _ r h => by simp [Fq.l0] at h
 | k + 1 => by
  have n0 := Fq.mono_l k
  ·
   intro y0 y1 y2 y3; unfold Fq.l0; repeat' first | (with_reducible first | exact n0 _ _ _ _ | exact LeO.refl _ | exact LeO.none _ | refine LeO.ite ?_ ?_ | refine LeO.bind ?_ (fun _ => ?_)) | exact n0 _ _ _ _ | refine LeO.ite ?_ ?_ | refine LeO.bind ?_ (fun _ => ?_)
theorem Fq.mono : ∀ a0 a1 k, LeO (Fq.f k a0 a1) (Fq.f (k + 1) a0 a1) := by
 intro a0 a1 k; have n0 := Fq.mono_l k; unfold Fq.f; repeat' first | (with_reducible first | exact n0 _ _ _ _ | exact LeO.refl _ | exact LeO.none _ | refine LeO.ite ?_ ?_ | refine LeO.bind ?_ (fun _ => ?_)) | exact n0 _ _ _ _ | refine LeO.ite ?_ ?_ | refine LeO.bind ?_ (fun _ => ?_)
theorem Fq.calls (k : Nat) (a0 : ByteArray) (a1 r : Int) (w : World) (h : Fq.f k a0 a1 = some r) :
  Calls Tryz.prog 87 #[.string a0, .int .i64 a1] w fun e w' => e = .returned (.int .i64 r) ∧ Qae w w' := by
 have H := h; unfold Fq.f at H; clear h; have H' := am_ H; clear H; go_enter Tryz.func87, Tryz.ntmps87; go_wp2
 go_loopg [5, 6] k (fun kq v5 v6 w' => ∃ (o0 : Int) (n0 : Int), v5 = .int .i64 o0 ∧ v6 = .int .i64 n0 ∧ Asc (Fq.l0 kq a0 a1 o0 n0 = some r) ∧ Asc (kq ≤ k) ∧ Qae w w')
 case atStart => exact ⟨(0), (a1), fr, fr, H', ⟨Nat.le_refl _⟩, by repeat (first | exact Qae.refl _ | apply Qae.step)⟩
 case round =>
  clear H'; obtain ⟨o0, n0, rfl, rfl, HA, A0, ⟨m1, rfl⟩⟩ := hrel
  cases gk with
  | zero => exact absurd HA.out (by simp [Fq.l0])
  | succ k1 =>
   have H := HA.out; clear HA; simp only [Fq.l0] at H
   by_cases c3 : n0 < (wrap64 (a1 + 4))
   ·
    rw [if_pos c3] at H; have u0 := dT c3; clear c3; revert H; refine gi (fun C0 H => ?_); revert H; refine gi (fun E0 H => ?_); have H' := am_ H; clear H; have p6 : 0 ≤ (n0 : Int) := dt; have q6 : n0 < (a0.size : Int) := dt; have I0 := Qi9 a0 n0; replace p6 := eq_true p6; replace q6 := eq_true q6; go_wp2; go_roundg k1
    case measure => have := A0.out; omega
    case rel => exact ⟨(wrap64 ((wrap64 (o0 * 256)) + (wrap64 (bt a0 n0)))), (wrap64 (n0 + 1)), fr, fr, H', kS A0, by repeat (first | exact Qae.refl _ | apply Qae.step)⟩
   rw [if_neg c3] at H; have u0 := dF c3; clear c3; obtain rfl := Option.some.inj H; go_wp2; go_ret; exact ⟨fr, by repeat (first | exact Qae.refl _ | apply Qae.step)⟩
mutual
def Fi.j0 : Nat → ByteArray → Int → Int → Bool → Option ((List (S28)))
 | 0, _, _, _, _ => none
 | k + 1, x0, x1, x2, n0 => if n0 = true then (none) else (Fi.l0 k x0 x1 x2 ([] : List (S28)) 0)
def Fi.l0 : Nat → ByteArray → Int → Int → List (S28) → Int → Option ((List (S28)))
 | 0, _, _, _, _, _ => none
 | k + 1, x0, x1, x2, x8, x9 => (Gc.f x2).bind fun C0 => (if x9 < C0 then ((He.f x0).bind fun n0 => (if 1 + n0.size ≤ 9223372036854775807 then ((Gd.f (IntKind.u64.wrap (x1))).bind fun o0 => (if ((⟨#[99]⟩ : ByteArray) ++ n0).size + o0.size ≤ 9223372036854775807 then ((Gd.f (IntKind.u64.wrap (x9))).bind fun A0 => (if (((⟨#[99]⟩ : ByteArray) ++ n0) ++ o0).size + A0.size ≤ 9223372036854775807 then ((H0.f ((((⟨#[99]⟩ : ByteArray) ++ n0) ++ o0) ++ A0)).bind fun u0 => ((Fq.f k u0 0).bind fun I0 => ((Fq.f k u0 4).bind fun E0 => (if x8.length < 8796093022208 then (Fi.l0 k x0 x1 x2 (x8 ++ [(⟨I0, E0⟩ : S28)]) (wrap64 (x9 + 1))) else (none))))) else (none))) else (none))) else (none))) else (some x8))
end
def Fi.f (k : Nat) (a0 : ByteArray) (a1 a2 : Int) : Option ((List (S28))) := (Fv.f a2).bind fun n0 => (if a1 < 1 then (none) else (Fi.j0 k a0 a1 a2 (!n0)))
theorem Fi.mono_l : ∀ k, (∀ y0 y1 y2 y3, LeO (Fi.j0 k y0 y1 y2 y3) (Fi.j0 (k + 1) y0 y1 y2 y3)) ∧ (∀ y0 y1 y2 y3 y4, LeO (Fi.l0 k y0 y1 y2 y3 y4) (Fi.l0 (k + 1) y0 y1 y2 y3 y4))
 | 0 => ⟨fun _ _ _ _ r h => by simp [Fi.j0] at h, fun _ _ _ _ _ r h => by simp [Fi.l0] at h⟩
 | k + 1 => by
  obtain ⟨o0, n0⟩ := Fi.mono_l k; refine ⟨?_, ?_⟩
  ·
   intro y0 y1 y2 y3; unfold Fi.j0; repeat' first | (with_reducible first | exact o0 _ _ _ _ | exact n0 _ _ _ _ _ | apply Fq.mono | exact LeO.refl _ | exact LeO.none _ | refine LeO.ite ?_ ?_ | refine LeO.bind ?_ (fun _ => ?_)) | exact o0 _ _ _ _ | exact n0 _ _ _ _ _ | refine LeO.ite ?_ ?_ | refine LeO.bind ?_ (fun _ => ?_)
  intro y0 y1 y2 y3 y4; unfold Fi.l0; repeat' first | (with_reducible first | exact o0 _ _ _ _ | exact n0 _ _ _ _ _ | apply Fq.mono | exact LeO.refl _ | exact LeO.none _ | refine LeO.ite ?_ ?_ | refine LeO.bind ?_ (fun _ => ?_)) | exact o0 _ _ _ _ | exact n0 _ _ _ _ _ | refine LeO.ite ?_ ?_ | refine LeO.bind ?_ (fun _ => ?_)
theorem Fi.mono : ∀ a0 a1 a2 k, LeO (Fi.f k a0 a1 a2) (Fi.f (k + 1) a0 a1 a2) := by
 intro a0 a1 a2 k; obtain ⟨o0, n0⟩ := Fi.mono_l k; unfold Fi.f; repeat' first | (with_reducible first | exact o0 _ _ _ _ | exact n0 _ _ _ _ _ | apply Fq.mono | exact LeO.refl _ | exact LeO.none _ | refine LeO.ite ?_ ?_ | refine LeO.bind ?_ (fun _ => ?_)) | exact o0 _ _ _ _ | exact n0 _ _ _ _ _ | refine LeO.ite ?_ ?_ | refine LeO.bind ?_ (fun _ => ?_)
theorem Fi.calls (k : Nat) (a0 : ByteArray) (a1 a2 : Int) (r : List (S28)) (w : World) (h : Fi.f k a0 a1 a2 = some r) :
  Calls Tryz.prog 65 #[.string a0, .int .i64 a1, .int .i64 a2] w fun e w' => ∃ Z1 : Value, e = .returned (Z1) ∧ Kd.R k28 28 w' w.heap.size (fun _ => True) Z1 r ∧ Below w.heap.size w w' := by
 have s3 := Tryz.underlying28; have HB := am_ (Below.refl w.heap.size w); have H := h; unfold Fi.f at H; clear h; replace H := bi H; obtain ⟨P0, A4, H⟩ := H; try dsimp only at H
 have L1 := am_ H; clear H; go_enter Tryz.func65, Tryz.ntmps65
 go_upto_region 2 with (first | (refine gl_ (some 12) Tryz.func54 #[.int .i64 a2] ?_; (with_reducible refine (Fv.calls a2 P0 _ A4.out).mono ?_); rintro e w' ⟨rfl, ⟨nd, rfl⟩⟩; refine ⟨_, rfl, ?_⟩))
 (try simp only [Act.put, List.setIfInBounds_toArray, List.set_cons_zero, List.set_cons_succ])
 go_cut [18] (fun C3 wc => ∃ (kq : Nat) (C0 : Bool), C3 = .bool C0 ∧ Asc (Fi.j0 kq a0 a1 a2 C0 = some r) ∧ Asc (kq ≤ k) ∧ Asc (Below w.heap.size w wc))
 case first =>
  have H := L1.out; clear L1
  by_cases c6 : a1 < 1
  ·
   rw [if_pos c6] at H; exact absurd H (by simp)
  rw [if_neg c6] at H; have Q0 := dF c6; clear c6
  (first | rw [Q0] | (simp only [Qay, Qa3]; rw [Q0]) | skip)
  have H' := am_ H; clear H; go_wp2
  go_meet
  case rel => exact ⟨_, (!P0), fr, H', ⟨by first | omega | exact Nat.le_refl _⟩, ⟨bh HB⟩⟩
 case rest =>
  clear L1; obtain ⟨kq, C0, rfl, HA, D2, HB⟩ := hcut
  cases kq with
  | zero => exact absurd HA.out (by simp [Fi.j0])
  | succ Q2 =>
   have H := HA.out; clear HA; simp only [Fi.j0] at H
   by_cases c7 : C0 = true
   ·
    subst c7; have H1 : (none) = some r := by rw [if_pos rfl] at H; exact H
    exact absurd H1 (by simp)
   replace c7 := Bool.eq_false_iff.mpr c7; subst c7; rw [if_neg (show ¬ (false = true) by decide)] at H; have H' := am_ H; clear H; go_wp2
   go_loopg [8, 9] Q2 (fun kq v8 v9 w' => ∃ (E0 : List (S28)) (o0 : Int), v9 = .int .i64 o0 ∧ Asc (Fi.l0 kq a0 a1 a2 E0 o0 = some r) ∧ Asc (kq ≤ Q2) ∧ Asc (Kd.R k28 28 w' w.heap.size (fun _ => True) v8 E0) ∧ Asc (Below w.heap.size w w'))
   case atStart => exact ⟨(([] : List (S28))), (0), fr, H', ⟨Nat.le_refl _⟩, ⟨kn⟩, ⟨bh HB⟩⟩
   case round =>
    clear H'; try clear c7
    obtain ⟨E0, o0, rfl, HA, C2, HO_8, HB⟩ := hrel
    cases gk with
    | zero => exact absurd HA.out (by simp [Fi.l0])
    | succ k2 =>
     have H := HA.out; clear HA; simp only [Fi.l0] at H; replace H := bi H; obtain ⟨O0, A8, H⟩ := H; try dsimp only at H
     by_cases c9 : o0 < O0
     ·
      rw [if_pos c9] at H; have N1 := dT c9; clear c9; replace H := bi H; obtain ⟨n0, u3, H⟩ := H; try dsimp only at H
      revert H; refine gi' (fun D1 H => ?_); have P1 := eq_true D1; have J2 : decide (1 + n0.size ≤ 9223372036854775807) = true := dT D1; try have L2 : (9223372036854775807 < 1 + n0.size) = False := eq_false (Nat.not_lt.2 D1)
      replace H := bi H; obtain ⟨A0, Y2, H⟩ := H; try dsimp only at H
      revert H; refine gi' (fun C1 H => ?_); have V1 := eq_true C1; have Y1 : decide (((⟨#[99]⟩ : ByteArray) ++ n0).size + A0.size ≤ 9223372036854775807) = true := dT C1; have c13u := C1
      (try simp only [ByteArray.size_append] at c13u)
      (try simp only [show ∀ x : UInt8, (⟨#[x]⟩ : ByteArray).size = 1 from fun _ => rfl] at c13u)
      have c13v := eq_false (Nat.not_lt.2 c13u); replace c13u := eq_true c13u; try have Q1 : (9223372036854775807 < ((⟨#[99]⟩ : ByteArray) ++ n0).size + A0.size) = False := eq_false (Nat.not_lt.2 C1)
      replace H := bi H; obtain ⟨N0, Z2, H⟩ := H; try dsimp only at H
      revert H; refine gi' (fun Z0 H => ?_); have N2 := eq_true Z0; have X1 : decide ((((⟨#[99]⟩ : ByteArray) ++ n0) ++ A0).size + N0.size ≤ 9223372036854775807) = true := dT Z0; have c15u := Z0
      (try simp only [ByteArray.size_append] at c15u)
      (try simp only [show ∀ x : UInt8, (⟨#[x]⟩ : ByteArray).size = 1 from fun _ => rfl] at c15u)
      have c15v := eq_false (Nat.not_lt.2 c15u); replace c15u := eq_true c15u; try have O1 : (9223372036854775807 < (((⟨#[99]⟩ : ByteArray) ++ n0) ++ A0).size + N0.size) = False := eq_false (Nat.not_lt.2 Z0)
      replace H := bi H; obtain ⟨L0, D3, H⟩ := H; try dsimp only at H
      replace H := bi H; obtain ⟨I0, k3, H⟩ := H; try dsimp only at H
      replace H := bi H; obtain ⟨M0, V2, H⟩ := H; try dsimp only at H
      revert H; refine gi' (fun U1 H => ?_); have X0 := am_ U1; clear U1; obtain ⟨U0, u0⟩ : ∃ y_ : List (S28), y_ = (E0 ++ [(⟨I0, M0⟩ : S28)]) := ⟨_, rfl⟩; replace H : (Fi.l0 k2 a0 a1 a2 U0 (wrap64 (o0 + 1))) = some r := by first | (rw [u0]; with_reducible exact H) | (have H := (Option.bind_some _ _).symm.trans H; first | (rw [u0]; with_reducible exact H) | with_reducible exact H) | with_reducible exact H | (rw [u0]; exact H) | exact H
      have V0 := am_ u0; clear u0; have H' := am_ H; clear H
      go_wp2_with (first | (refine gl_ (some 21) Tryz.func32 #[.int .i64 a2] ?_; (with_reducible refine (Gc.calls a2 O0 _ A8.out).mono ?_); rintro e w' ⟨rfl, ⟨nd, rfl⟩⟩; refine ⟨_, rfl, ?_⟩) | (refine gl_ (some 26) Tryz.func85 #[.string a0] ?_; (with_reducible refine (He.calls a0 n0 _ u3.out).mono ?_); rintro e L3 ⟨rfl, hb⟩; refine ⟨_, rfl, ?_⟩; replace HO_8 := tRb HO_8 hb; replace HB := tHb HB hb; (try clear hb)) | (refine gl_ (some 30) Tryz.func86 #[.int .u64 (IntKind.u64.wrap (a1))] ?_; (with_reducible refine (Gd.calls (IntKind.u64.wrap (a1)) A0 _ Y2.out).mono ?_); rintro e I3 ⟨rfl, hb⟩; refine ⟨_, rfl, ?_⟩; replace HO_8 := tRb HO_8 hb; replace HB := tHb HB hb; (try clear hb)) | (refine gl_ (some 34) Tryz.func86 #[.int .u64 (IntKind.u64.wrap (o0))] ?_; (with_reducible refine (Gd.calls (IntKind.u64.wrap (o0)) N0 _ Z2.out).mono ?_); rintro e Q3 ⟨rfl, hb⟩; refine ⟨_, rfl, ?_⟩; replace HO_8 := tRb HO_8 hb; replace HB := tHb HB hb; (try clear hb)) | (refine gl_ (some 36) Tryz.func67 #[.string ((((⟨#[99]⟩ : ByteArray) ++ n0) ++ A0) ++ N0)] ?_; (with_reducible refine (H0.calls ((((⟨#[99]⟩ : ByteArray) ++ n0) ++ A0) ++ N0) L0 _ D3.out).mono ?_); rintro e N3 ⟨rfl, hb⟩; refine ⟨_, rfl, ?_⟩; replace HO_8 := tRb HO_8 hb; replace HB := tHb HB hb; (try clear hb)) | (refine gl_ (some 39) Tryz.func87 #[.string L0, .int .i64 0] ?_; (with_reducible refine (Fq.calls k2 L0 0 I0 _ k3.out).mono ?_); rintro e w' ⟨rfl, ⟨nd, rfl⟩⟩; refine ⟨_, rfl, ?_⟩) | (refine gl_ (some 41) Tryz.func87 #[.string L0, .int .i64 4] ?_; (with_reducible refine (Fq.calls k2 L0 4 M0 _ V2.out).mono ?_); rintro e w' ⟨rfl, ⟨nd, rfl⟩⟩; refine ⟨_, rfl, ?_⟩) | ((with_reducible refine Qat (b := .append) (xs := #[.tmp 37, .tmp 43]) rfl ?_); at_builtin; refine Kd.R_append k28 (w0 := w) w.heap.size rfl (.tmp 37) (.tmp 43) 94 28 (.agg #[(.int .i64 0), (.int .i64 0)]) 16 rfl Tryz.underlying94 info28 rfl (by decide) (by omega) u8 E0 (⟨I0, M0⟩ : S28) [.int .i64 I0, .int .i64 M0] (fun _ => True) (fun _ => False) rfl rfl ?aP (fun _ hk => hk.elim) ?aF ?aO ?aB ?aS ?aL ?_; (case aP => exact Qmq _ _ _ (⟨I0, M0⟩ : S28)); (case aB => exact (bh HB)); (case aF => exact (fun _ _ => trivial)); (case aO => exact (hR HO_8)); (case aS => exact (Qac (bh HB))); (case aL => have := X0.out; omega); intro m3 J3 ho hb hg hat; rw [← V0.out] at ho; replace HB := am_ hb; have Y0 := am_ (ho); clear HO_8 ho hb hg hat))
      go_roundg k2
      case measure => have := D2.out; have := C2.out; omega
      case rel => exact ⟨(U0), (wrap64 (o0 + 1)), fr, H', ⟨by have := D2.out; have := C2.out; omega⟩, ⟨hR Y0⟩, ⟨bh HB⟩⟩
     rw [if_neg c9] at H; have N1 := dF c9; clear c9; obtain rfl := Option.some.inj H
     go_wp2_with (first | (refine gl_ (some 21) Tryz.func32 #[.int .i64 a2] ?_; (with_reducible refine (Gc.calls a2 O0 _ A8.out).mono ?_); rintro e w' ⟨rfl, ⟨nd, rfl⟩⟩; refine ⟨_, rfl, ?_⟩))
     go_ret; exact ⟨_, fe, hR HO_8, bh HB⟩

def Gh.f (k : Nat) (a0 : ByteArray) (a1 a2 a3 : Int) : Option (Int × Int) := (Fi.f k a0 a1 a2).bind fun o0 => ((Fj.f k o0 a3).bind fun n0 => (some (n0.2.1, n0.2.2.1)))
theorem Gh.mono : ∀ a0 a1 a2 a3 k, LeO (Gh.f k a0 a1 a2 a3) (Gh.f (k + 1) a0 a1 a2 a3) := by
 intro a0 a1 a2 a3 k; unfold Gh.f; repeat' first | (with_reducible first | apply Fj.mono | apply Fi.mono | exact LeO.refl _ | exact LeO.none _ | refine LeO.ite ?_ ?_ | refine LeO.bind ?_ (fun _ => ?_)) | refine LeO.ite ?_ ?_ | refine LeO.bind ?_ (fun _ => ?_)
theorem Gh.calls (k : Nat) (a0 : ByteArray) (a1 a2 : Int) (a3 r1 r2 : Int) (w : World) (h : Gh.f k a0 a1 a2 a3 = some (r1, r2)) :
  Calls Tryz.prog 44 #[.string a0, .int .i64 a1, .int .i64 a2, .int .i64 a3] w fun e w' => e = .returned (.agg #[.int .i64 r1, .int .i64 r2]) ∧ Below w.heap.size w w' := by
 have D1 := Tryz.underlying28; have N1 := Tryz.underlying76; have HB := am_ (Below.refl w.heap.size w); have H := h; unfold Gh.f at H; clear h; replace H := bi H; obtain ⟨C0, A5, H⟩ := H; try dsimp only at H
 replace H := bi H; obtain ⟨⟨Q0, M0, I0, P0⟩, A6, H⟩ := H; try dsimp only at H
 replace H := oi2 H; obtain ⟨rfl, rfl⟩ := H; go_enter Tryz.func44, Tryz.ntmps44
 go_wp2_with (first | (refine bf_ 8 #[.int .i64 0, .int .i64 0] 28 HB ?_; intro A0 hg w7 hb n0 X0 HB; clear hb hg) | (refine gl_ (some 15) Tryz.func65 #[.string a0, .int .i64 a1, .int .i64 a2] ?_; (with_reducible refine (Fi.calls k a0 a1 a2 C0 _ A5.out).mono ?_); rintro e w8 ⟨O1, rfl, V0, hb⟩; refine ⟨_, rfl, ?_⟩; have o0 := am_ (Kd.R_lower (Kd.R_newB V0 (g := A0) (o := .cells #[.int .i64 0, .int .i64 0] 28 (0, 0)) (gB n0)) (Qac (bh HB))); replace n0 := tBb n0 hb; replace HB := tHb HB hb; (try clear hb V0); obtain ⟨C1, L1, Z0⟩ := Kd.R_slice o0.out; subst Z0) | (refine gl_ (some 17) Tryz.func64 #[.slice C1 C0.length L1, .int .i64 a3] ?_; (with_reducible refine (Fj.calls k _ _ C0 a3 Q0 M0 I0 P0 _ ?O0 ?L0 A6.out).mono ?_); (case O0 => repeat (first | exact (Kd.R_reads' o0.out).2.2 | (with_reducible refine Kd.C_alloc ?_ _) | (with_reducible refine Kd.C_drewN ?_ _) | (with_reducible refine Kd.C_drew ?_))); (case L0 => exact (Kd.R_reads' o0.out).2.1); rintro e Q1 ⟨rfl, hb⟩; refine ⟨_, rfl, ?_⟩; replace o0 := tRb o0 hb; replace n0 := tBb n0 hb; replace HB := tHb HB hb; (try clear hb)) | (refine bf_ 9 #[.int .i64 0, .int .i64 0, .int .i64 0] 76 HB ?_; intro Y0 hg P1 hb N0 U0 HB; replace o0 := tRb o0 hb; obtain ⟨E0, u0⟩ := tN n0 hg; replace n0 := tBb n0 hb; clear hb hg; have _ := n2 u0; have _ := bx3 N0; have _ := bx2 n0))
 refine bodyPost_ret (results_cell_row rfl _ _ A0 28 #[.int .i64 M0, .int .i64 I0] (0, 0) _ rfl (gP n0 rfl) Tryz.underlying28 rfl (by kernel_rfl)) rfl ?_; exact ⟨fe, bh HB⟩

def Fs.l0 : Nat → List ByteArray → ByteArray → Int → Option (List ByteArray)
 | 0, _, _, _ => none
 | k + 1, x0, x1, x5 => if x5 < (x0.length : Int) then (if 0 ≤ x5 then (if (Op.bytesLess ((Qby ByteArray.empty x0 x5).toList) x1.toList) = true then (Fs.l0 k x0 x1 (wrap64 (x5 + 1))) else ((some (([] : List ByteArray) : List ByteArray)).bind fun n0 => (if x5 ≤ (x0.length : Int) then (if n0.length + (x0.take (x5 : Int).toNat).length < 8796093022208 then ((some (n0 ++ (x0.take (x5 : Int).toNat) : List ByteArray)).bind fun o0 => (if o0.length < 8796093022208 then ((some (o0 ++ [x1] : List ByteArray)).bind fun E0 => (if E0.length + (x0.drop (x5 : Int).toNat).length < 8796093022208 then (some (E0 ++ (x0.drop (x5 : Int).toNat))) else (none))) else (none))) else (none)) else (none)))) else (none)) else ((some (([] : List ByteArray) : List ByteArray)).bind fun A0 => (if 0 ≤ x5 then (if x5 ≤ (x0.length : Int) then (if A0.length + (x0.take (x5 : Int).toNat).length < 8796093022208 then ((some (A0 ++ (x0.take (x5 : Int).toNat) : List ByteArray)).bind fun C0 => (if C0.length < 8796093022208 then ((some (C0 ++ [x1] : List ByteArray)).bind fun u0 => (if u0.length + (x0.drop (x5 : Int).toNat).length < 8796093022208 then (some (u0 ++ (x0.drop (x5 : Int).toNat))) else (none))) else (none))) else (none)) else (none)) else (none)))
def Fs.f (k : Nat) (l0 : List ByteArray) (a1 : ByteArray) : Option (List ByteArray) := Fs.l0 k l0 a1 0
theorem Fs.mono_l : ∀ k, (∀ y0 y1 y2, LeO (Fs.l0 k y0 y1 y2) (Fs.l0 (k + 1) y0 y1 y2))
 | 0 => fun _ _ _ r h => by simp [Fs.l0] at h
 | k + 1 => by
  have n0 := Fs.mono_l k
  ·
   intro y0 y1 y2; unfold Fs.l0; repeat' first | (with_reducible first | exact n0 _ _ _ | exact LeO.refl _ | exact LeO.none _ | refine LeO.ite ?_ ?_ | refine LeO.bind ?_ (fun _ => ?_)) | exact n0 _ _ _ | refine LeO.ite ?_ ?_ | refine LeO.bind ?_ (fun _ => ?_)
theorem Fs.mono : ∀ a0 a1 k, LeO (Fs.f k a0 a1) (Fs.f (k + 1) a0 a1) := by
 intro a0 a1 k; have n0 := Fs.mono_l k; unfold Fs.f; repeat' first | (with_reducible first | exact n0 _ _ _ | exact LeO.refl _ | exact LeO.none _ | refine LeO.ite ?_ ?_ | refine LeO.bind ?_ (fun _ => ?_)) | exact n0 _ _ _ | refine LeO.ite ?_ ?_ | refine LeO.bind ?_ (fun _ => ?_)
theorem Fs.calls (k : Nat) (A0 : Option Addr) (c0 : Nat) (l0 : List ByteArray) (a1 : ByteArray) (r : List ByteArray) (w : World) (W5 : Kd.C Kd.string w A0 l0.length l0) (C5 : l0.length ≤ c0) (h : Fs.f k l0 a1 = some r) :
  Calls Tryz.prog 48 #[.slice A0 l0.length c0, .string a1] w fun e w' => ∃ A5 : Value, e = .returned (A5) ∧ Kd.R Kd.string 9 w' w.heap.size (fun _ => True) A5 r ∧ Below w.heap.size w w' := by
 have C3 := am_ W5; have L4 := am_ C5; clear W5 C5; have HB := am_ (Below.refl w.heap.size w); have H := h; unfold Fs.f at H; clear h; have H' := am_ H; clear H; go_enter Tryz.func48, Tryz.ntmps48; go_wp2
 go_loopg [5] k (fun kq v5 w' => ∃ (n0 : Int), v5 = .int .i64 n0 ∧ Asc (Fs.l0 kq l0 a1 n0 = some r) ∧ Asc (kq ≤ k) ∧ Asc (Below w.heap.size w w'))
 case atStart => exact ⟨(0), fr, H', ⟨Nat.le_refl _⟩, ⟨bh HB⟩⟩
 case round =>
  clear H'; obtain ⟨n0, rfl, HA, K5, HB⟩ := hrel
  cases gk with
  | zero => exact absurd HA.out (by simp [Fs.l0])
  | succ k1 =>
   have H := HA.out; clear HA; simp only [Fs.l0] at H
   by_cases c3 : n0 < (l0.length : Int)
   ·
    rw [if_pos c3] at H; have m5 := dT c3; clear c3; revert H; refine gi (fun l6 H => ?_)
    by_cases c5 : (Op.bytesLess ((Qby ByteArray.empty l0 n0).toList) a1.toList) = true
    ·
     rw [if_pos c5] at H; have O4 : (Op.bytesLess ((Qby ByteArray.empty l0 n0).toList) a1.toList) = true := c5; clear c5; have H' := am_ H; clear H; have X0 : 0 ≤ (n0 : Int) := dt; have Y0 : n0 < (l0.length : Int) := dt; obtain ⟨D1, u3, o0⟩ := Kd.at_string C3.out n0 X0 Y0; cases u3; replace o0 := ce HB o0; replace X0 := eq_true X0; replace Y0 := eq_true Y0; go_wp2; go_roundg k1
     case measure => have := K5.out; omega
     case rel => exact ⟨(wrap64 (n0 + 1)), fr, H', kS K5, ⟨bh HB⟩⟩
    rw [if_neg c5] at H; have O4 : (Op.bytesLess ((Qby ByteArray.empty l0 n0).toList) a1.toList) = false := by simpa using c5
    clear c5; obtain ⟨P1, L0⟩ : ∃ y_ : List ByteArray, y_ = (([] : List ByteArray)) := ⟨_, rfl⟩; replace H : (if n0 ≤ (l0.length : Int) then (if P1.length + (l0.take (n0 : Int).toNat).length < 8796093022208 then ((some (P1 ++ (l0.take (n0 : Int).toNat) : List ByteArray)).bind fun V0 => (if V0.length < 8796093022208 then ((some (V0 ++ [a1] : List ByteArray)).bind fun C0 => (if C0.length + (l0.drop (n0 : Int).toNat).length < 8796093022208 then (some (C0 ++ (l0.drop (n0 : Int).toNat))) else (none))) else (none))) else (none)) else (none)) = some r := by first | (rw [L0]; with_reducible exact H) | (have H := (Option.bind_some _ _).symm.trans H; first | (rw [L0]; with_reducible exact H) | with_reducible exact H) | with_reducible exact H | (rw [L0]; exact H) | exact H
    have L2 := am_ L0; clear L0; have k6 := eq_true (dt : 0 ≤ n0); revert H; refine gi' (fun c7 H => ?_); have i6 := eq_true c7; have Z5 : decide (n0 ≤ (l0.length : Int)) = true := dT c7; clear c7; revert H; refine gi' (fun c8 H => ?_); have U4 := am_ c8; clear c8; obtain ⟨V0, E0⟩ : ∃ y_ : List ByteArray, y_ = (P1 ++ (l0.take (n0 : Int).toNat)) := ⟨_, rfl⟩; replace H : (if V0.length < 8796093022208 then ((some (V0 ++ [a1] : List ByteArray)).bind fun C0 => (if C0.length + (l0.drop (n0 : Int).toNat).length < 8796093022208 then (some (C0 ++ (l0.drop (n0 : Int).toNat))) else (none))) else (none)) = some r := by first | (rw [E0]; with_reducible exact H) | (have H := (Option.bind_some _ _).symm.trans H; first | (rw [E0]; with_reducible exact H) | with_reducible exact H) | with_reducible exact H | (rw [E0]; exact H) | exact H
    have J3 := am_ E0; clear E0; revert H; refine gi' (fun c9 H => ?_); have Q4 := am_ c9; clear c9; obtain ⟨C0, O0⟩ : ∃ y_ : List ByteArray, y_ = (V0 ++ [a1]) := ⟨_, rfl⟩; replace H : (if C0.length + (l0.drop (n0 : Int).toNat).length < 8796093022208 then (some (C0 ++ (l0.drop (n0 : Int).toNat))) else (none)) = some r := by first | (rw [O0]; with_reducible exact H) | (have H := (Option.bind_some _ _).symm.trans H; first | (rw [O0]; with_reducible exact H) | with_reducible exact H) | with_reducible exact H | (rw [O0]; exact H) | exact H
    have Y3 := am_ O0; clear O0; have Q5 := eq_true (dt : 0 ≤ n0); have N5 := eq_true (dt : n0 ≤ (l0.length : Int)); revert H; refine gi' (fun R5 H => ?_); have u4 := am_ R5; clear R5; obtain ⟨W4, P0⟩ : ∃ y_ : List ByteArray, y_ = (C0 ++ (l0.drop (n0 : Int).toNat)) := ⟨_, rfl⟩; replace H : (some W4) = some r := by first | (rw [P0]; with_reducible exact H) | (have H := (Option.bind_some _ _).symm.trans H; first | (rw [P0]; with_reducible exact H) | with_reducible exact H) | with_reducible exact H | (rw [P0]; exact H) | exact H
    have Z3 := am_ P0; clear P0; obtain rfl := Option.some.inj H; have X0 : 0 ≤ (n0 : Int) := dt; have Y0 : n0 < (l0.length : Int) := dt; obtain ⟨D1, u3, o0⟩ := Kd.at_string C3.out n0 X0 Y0; cases u3; replace o0 := ce HB o0; replace X0 := eq_true X0; replace Y0 := eq_true Y0
    go_wp2_with (first | ((with_reducible refine gd_ 21 ?_); refine Kd.R_lit Kd.string _ 9 ?hg (N := 21) ?hd (xs := ([] : List ByteArray)) (inner := []) (ok := fun _ => True) (okp := fun _ => True) ?hr ?hp (fun _ hk => hk) trivial (Below.refl _ _) (Nat.le_refl _) (by simp) ?_; (case hd => rfl); (case hg => rfl); (case hr => first | (go_simp; done) | (go_simp; rfl)); (case hp => exact (Qbv.none _ _)); intro M4 E6 C1 hb hg_ hnew_; clear hg_ hnew_; (first | rw [← L2.out] at C1 | (simp only [Int.reduceToNat] at C1; rw [← L2.out] at C1)); have X1 := am_ (Kd.R_lower C1 (Qac (bh HB))); replace HB := tHb HB hb; clear hb C1; obtain ⟨o6, k3, _, Q2, _⟩ := info_parts Qfm; obtain ⟨X4, S3, D4⟩ := Qdp (P := Tryz.prog) Value.string (⟨#[]⟩ : ByteArray) 26 9 .i64 Tryz.underlying26 k3 Q2 (some D1) c0 l0 n0 (dt) (dt) L4.out; have Z0 := am_ (Kd.C_of_reads (h1 := fun _ => rfl) (S3 _ (Kd.reads_of_C C3.out))); have s5 := am_ D4; clear S3 D4 k3 Q2) | ((with_reducible refine Qat (b := .append) (xs := #[.tmp 21, .tmp 24]) rfl ?_); at_builtin; refine Kd.R_append_rows Kd.string (w0 := w) w.heap.size rfl (.tmp 21) (.tmp 24) 26 9 (.string ⟨#[]⟩) 16 rfl Tryz.underlying26 Qfm rfl (by decide) (by omega) M4 P1 (l0.take (n0 : Int).toNat) _ _ _ (fun _ => True) (fun _ => False) rfl rfl ?aO ?aR (fun _ _ h => h) (fun _ h => h.elim) ?aF ?aB ?aS ?aL ?_; (case aR => first | (have L3 := (Kd.C_below Z0.out HB.out); rw [show (l0.take (n0 : Int).toNat).length = n0.toNat from (by rw [List.length_take]; have h_ : (n0 : Int) ≤ (l0.length : Int) := dt; omega)] at L3; exact L3) | (rw [← show (l0.take (n0 : Int).toNat).length = n0.toNat from (by rw [List.length_take]; have h_ : (n0 : Int) ≤ (l0.length : Int) := dt; omega)]; exact gCB Z0 HB) | (exact gCB Z0 HB)); (case aB => exact (bh HB)); (case aF => exact (fun _ _ => trivial)); (case aO => exact (hR X1)); (case aS => exact (Qac (bh HB))); (case aL => have := U4.out; have hlx_ := (show (l0.take (n0 : Int).toNat).length = n0.toNat from (by rw [List.length_take]; have h_ : (n0 : Int) ≤ (l0.length : Int) := dt; omega)); omega); intro k5 w16 ho hb hg hat; rw [← J3.out] at ho; replace HB := am_ hb; have D2 := am_ (ho); clear X1 ho hb hg hat) | ((with_reducible refine Qat (b := .append) (xs := #[.tmp 26, .tmp 28]) rfl ?_); at_builtin; refine Kd.R_append Kd.string (w0 := w) w.heap.size rfl (.tmp 26) (.tmp 28) 26 9 (.string ⟨#[]⟩) 16 rfl Tryz.underlying26 Qfm rfl (by decide) (by omega) k5 V0 a1 [.string a1] (fun _ => True) (fun _ => False) rfl rfl ?aP (fun _ hk => hk.elim) ?aF ?aO ?aB ?aS ?aL ?_; (case aP => exact rfl); (case aB => exact (bh HB)); (case aF => exact (fun _ _ => trivial)); (case aO => exact (hR D2)); (case aS => exact (Qac (bh HB))); (case aL => have := Q4.out; omega); intro N4 A6 ho hb hg hat; rw [← Y3.out] at ho; replace HB := am_ hb; have Z1 := am_ (ho); clear D2 ho hb hg hat; obtain ⟨j6, U1, _, C2, _⟩ := info_parts Qfm; obtain ⟨s6, P4, I3, m4⟩ := Qdk (P := Tryz.prog) Value.string (⟨#[]⟩ : ByteArray) 26 9 .i64 Tryz.underlying26 U1 C2 (some D1) c0 l0 n0 (dt) (dt) L4.out; have Y1 := am_ (Kd.C_of_reads (h1 := fun _ => rfl) (I3 _ (Kd.reads_of_C C3.out))); have U5 := am_ m4; clear I3 m4 U1 C2) | ((with_reducible refine Qat (b := .append) (xs := #[.tmp 30, .tmp 33]) rfl ?_); at_builtin; refine Kd.R_append_rows Kd.string (w0 := w) w.heap.size rfl (.tmp 30) (.tmp 33) 26 9 (.string ⟨#[]⟩) 16 rfl Tryz.underlying26 Qfm rfl (by decide) (by omega) N4 C0 (l0.drop (n0 : Int).toNat) _ _ _ (fun _ => True) (fun _ => False) rfl rfl ?aO ?aR (fun _ _ h => h) (fun _ h => h.elim) ?aF ?aB ?aS ?aL ?_; (case aR => first | (rw [← show (l0.drop (n0 : Int).toNat).length = (l0.length - n0.toNat) from List.length_drop]; exact gCB Y1 HB) | (exact gCB Y1 HB)); (case aB => exact (bh HB)); (case aF => exact (fun _ _ => trivial)); (case aO => exact (hR Z1)); (case aS => exact (Qac (bh HB))); (case aL => have := u4.out; have hlx_ := (show (l0.drop (n0 : Int).toNat).length = (l0.length - n0.toNat) from List.length_drop); omega); intro Y5 p6 ho hb hg hat; rw [← Z3.out] at ho; replace HB := am_ hb; have C4 := am_ (ho); clear Z1 ho hb hg hat))
    go_ret; exact ⟨_, fe, hR C4, bh HB⟩
   rw [if_neg c3] at H; have m5 := dF c3; clear c3; obtain ⟨O1, M0⟩ : ∃ y_ : List ByteArray, y_ = (([] : List ByteArray)) := ⟨_, rfl⟩; replace H : (if 0 ≤ n0 then (if n0 ≤ (l0.length : Int) then (if O1.length + (l0.take (n0 : Int).toNat).length < 8796093022208 then ((some (O1 ++ (l0.take (n0 : Int).toNat) : List ByteArray)).bind fun U0 => (if U0.length < 8796093022208 then ((some (U0 ++ [a1] : List ByteArray)).bind fun u0 => (if u0.length + (l0.drop (n0 : Int).toNat).length < 8796093022208 then (some (u0 ++ (l0.drop (n0 : Int).toNat))) else (none))) else (none))) else (none)) else (none)) else (none)) = some r := by first | (rw [M0]; with_reducible exact H) | (have H := (Option.bind_some _ _).symm.trans H; first | (rw [M0]; with_reducible exact H) | with_reducible exact H) | with_reducible exact H | (rw [M0]; exact H) | exact H
   have Q1 := am_ M0; clear M0
   by_cases J4 : 0 ≤ n0
   ·
    rw [if_pos J4] at H; have D5 := eq_true J4; have O5 := dT J4; clear J4; revert H; refine gi' (fun l5 H => ?_); have p5 := eq_true l5; have E5 : decide (n0 ≤ (l0.length : Int)) = true := dT l5; clear l5; revert H; refine gi' (fun S5 H => ?_); have I4 := am_ S5; clear S5; obtain ⟨U0, I0⟩ : ∃ y_ : List ByteArray, y_ = (O1 ++ (l0.take (n0 : Int).toNat)) := ⟨_, rfl⟩; replace H : (if U0.length < 8796093022208 then ((some (U0 ++ [a1] : List ByteArray)).bind fun u0 => (if u0.length + (l0.drop (n0 : Int).toNat).length < 8796093022208 then (some (u0 ++ (l0.drop (n0 : Int).toNat))) else (none))) else (none)) = some r := by first | (rw [I0]; with_reducible exact H) | (have H := (Option.bind_some _ _).symm.trans H; first | (rw [I0]; with_reducible exact H) | with_reducible exact H) | with_reducible exact H | (rw [I0]; exact H) | exact H
    have D3 := am_ I0; clear I0; revert H; refine gi' (fun V5 H => ?_); have s4 := am_ V5; clear V5; obtain ⟨u0, Q0⟩ : ∃ y_ : List ByteArray, y_ = (U0 ++ [a1]) := ⟨_, rfl⟩; replace H : (if u0.length + (l0.drop (n0 : Int).toNat).length < 8796093022208 then (some (u0 ++ (l0.drop (n0 : Int).toNat))) else (none)) = some r := by first | (rw [Q0]; with_reducible exact H) | (have H := (Option.bind_some _ _).symm.trans H; first | (rw [Q0]; with_reducible exact H) | with_reducible exact H) | with_reducible exact H | (rw [Q0]; exact H) | exact H
    have Q3 := am_ Q0; clear Q0; have P5 := eq_true (dt : 0 ≤ n0); have I5 := eq_true (dt : n0 ≤ (l0.length : Int)); revert H; refine gi' (fun L5 H => ?_); have V3 := am_ L5; clear L5; obtain ⟨V4, N0⟩ : ∃ y_ : List ByteArray, y_ = (u0 ++ (l0.drop (n0 : Int).toNat)) := ⟨_, rfl⟩; replace H : (some V4) = some r := by first | (rw [N0]; with_reducible exact H) | (have H := (Option.bind_some _ _).symm.trans H; first | (rw [N0]; with_reducible exact H) | with_reducible exact H) | with_reducible exact H | (rw [N0]; exact H) | exact H
    have k4 := am_ N0; clear N0; obtain rfl := Option.some.inj H
    go_wp2_with (first | ((with_reducible refine gd_ 21 ?_); refine Kd.R_lit Kd.string _ 9 ?hg (N := 21) ?hd (xs := ([] : List ByteArray)) (inner := []) (ok := fun _ => True) (okp := fun _ => True) ?hr ?hp (fun _ hk => hk) trivial (Below.refl _ _) (Nat.le_refl _) (by simp) ?_; (case hd => rfl); (case hg => rfl); (case hr => first | (go_simp; done) | (go_simp; rfl)); (case hp => exact (Qbv.none _ _)); intro R4 z6 L1 hb hg_ hnew_; clear hg_ hnew_; (first | rw [← Q1.out] at L1 | (simp only [Int.reduceToNat] at L1; rw [← Q1.out] at L1)); have V1 := am_ (Kd.R_lower L1 (Qac (bh HB))); replace HB := tHb HB hb; clear hb L1; obtain ⟨X5, N2, _, J2, _⟩ := info_parts Qfm; obtain ⟨Z4, N3, K4⟩ := Qdp (P := Tryz.prog) Value.string (⟨#[]⟩ : ByteArray) 26 9 .i64 Tryz.underlying26 N2 J2 A0 c0 l0 n0 (dt) (dt) L4.out; have N1 := am_ (Kd.C_of_reads (h1 := fun _ => rfl) (N3 _ (Kd.reads_of_C C3.out))); have M5 := am_ K4; clear N3 K4 N2 J2) | ((with_reducible refine Qat (b := .append) (xs := #[.tmp 21, .tmp 24]) rfl ?_); at_builtin; refine Kd.R_append_rows Kd.string (w0 := w) w.heap.size rfl (.tmp 21) (.tmp 24) 26 9 (.string ⟨#[]⟩) 16 rfl Tryz.underlying26 Qfm rfl (by decide) (by omega) R4 O1 (l0.take (n0 : Int).toNat) _ _ _ (fun _ => True) (fun _ => False) rfl rfl ?aO ?aR (fun _ _ h => h) (fun _ h => h.elim) ?aF ?aB ?aS ?aL ?_; (case aR => first | (have L3 := (Kd.C_below N1.out HB.out); rw [show (l0.take (n0 : Int).toNat).length = n0.toNat from (by rw [List.length_take]; have h_ : (n0 : Int) ≤ (l0.length : Int) := dt; omega)] at L3; exact L3) | (rw [← show (l0.take (n0 : Int).toNat).length = n0.toNat from (by rw [List.length_take]; have h_ : (n0 : Int) ≤ (l0.length : Int) := dt; omega)]; exact gCB N1 HB) | (exact gCB N1 HB)); (case aB => exact (bh HB)); (case aF => exact (fun _ _ => trivial)); (case aO => exact (hR V1)); (case aS => exact (Qac (bh HB))); (case aL => have := I4.out; have hlx_ := (show (l0.take (n0 : Int).toNat).length = n0.toNat from (by rw [List.length_take]; have h_ : (n0 : Int) ≤ (l0.length : Int) := dt; omega)); omega); intro S4 D6 ho hb hg hat; rw [← D3.out] at ho; replace HB := am_ hb; have s3 := am_ (ho); clear V1 ho hb hg hat) | ((with_reducible refine Qat (b := .append) (xs := #[.tmp 26, .tmp 28]) rfl ?_); at_builtin; refine Kd.R_append Kd.string (w0 := w) w.heap.size rfl (.tmp 26) (.tmp 28) 26 9 (.string ⟨#[]⟩) 16 rfl Tryz.underlying26 Qfm rfl (by decide) (by omega) S4 U0 a1 [.string a1] (fun _ => True) (fun _ => False) rfl rfl ?aP (fun _ hk => hk.elim) ?aF ?aO ?aB ?aS ?aL ?_; (case aP => exact rfl); (case aB => exact (bh HB)); (case aF => exact (fun _ _ => trivial)); (case aO => exact (hR s3)); (case aS => exact (Qac (bh HB))); (case aL => have := s4.out; omega); intro Y4 q6 ho hb hg hat; rw [← Q3.out] at ho; replace HB := am_ hb; have V2 := am_ (ho); clear s3 ho hb hg hat; obtain ⟨m6, m3, _, Y2, _⟩ := info_parts Qfm; obtain ⟨r6, i5, E4, X3⟩ := Qdk (P := Tryz.prog) Value.string (⟨#[]⟩ : ByteArray) 26 9 .i64 Tryz.underlying26 m3 Y2 A0 c0 l0 n0 (dt) (dt) L4.out; have Z2 := am_ (Kd.C_of_reads (h1 := fun _ => rfl) (E4 _ (Kd.reads_of_C C3.out))); have J5 := am_ X3; clear E4 X3 m3 Y2) | ((with_reducible refine Qat (b := .append) (xs := #[.tmp 30, .tmp 33]) rfl ?_); at_builtin; refine Kd.R_append_rows Kd.string (w0 := w) w.heap.size rfl (.tmp 30) (.tmp 33) 26 9 (.string ⟨#[]⟩) 16 rfl Tryz.underlying26 Qfm rfl (by decide) (by omega) Y4 u0 (l0.drop (n0 : Int).toNat) _ _ _ (fun _ => True) (fun _ => False) rfl rfl ?aO ?aR (fun _ _ h => h) (fun _ h => h.elim) ?aF ?aB ?aS ?aL ?_; (case aR => first | (rw [← show (l0.drop (n0 : Int).toNat).length = (l0.length - n0.toNat) from List.length_drop]; exact gCB Z2 HB) | (exact gCB Z2 HB)); (case aB => exact (bh HB)); (case aF => exact (fun _ _ => trivial)); (case aO => exact (hR V2)); (case aS => exact (Qac (bh HB))); (case aL => have := V3.out; have hlx_ := (show (l0.drop (n0 : Int).toNat).length = (l0.length - n0.toNat) from List.length_drop); omega); intro c6 C6 ho hb hg hat; rw [← k4.out] at ho; replace HB := am_ hb; have U3 := am_ (ho); clear V2 ho hb hg hat))
    go_ret; exact ⟨_, fe, hR U3, bh HB⟩
   rw [if_neg J4] at H; exact absurd H (by simp)

mutual
def F5.l0 : Nat → Int → Int → Int → Int → List (S32) → Option (Int × Int × (List (S32)))
 | 0, _, _, _, _, _ => none
 | k + 1, x0, x4, u0, n0, o0 => if x4 ≤ x0 then ((F6.f k u0 n0 o0 (wrap64 (x4 - 1))).bind fun A0 => (F5.l1 k x0 x4 A0 ([] : List ByteArray) 0 u0 n0 o0)) else (some (u0, n0, o0))
def F5.l1 : Nat → Int → Int → List (S32) → List ByteArray → Int → Int → Int → List (S32) → Option (Int × Int × (List (S32)))
 | 0, _, _, _, _, _, _, _, _ => none
 | k + 1, x0, x4, x5, x6, x7, u0, n0, o0 => if x7 < (x5.length : Int) then (if 0 ≤ x7 then ((Fs.f k x6 ((Qab x5 x7).f0)).bind fun A0 => (F5.l1 k x0 x4 x5 A0 (wrap64 (x7 + 1)) u0 n0 o0)) else (none)) else (F5.l2 k x0 x4 x6 1 u0 n0 o0)
def F5.l2 : Nat → Int → Int → List ByteArray → Int → Int → Int → List (S32) → Option (Int × Int × (List (S32)))
 | 0, _, _, _, _, _, _, _ => none
 | k + 1, x0, x4, x6, x8, u0, o0, n0 => if x8 ≤ 4 then (if (Int.tmod x4 3) = 0 then ((Gh.f k (⟨#[]⟩ : ByteArray) (wrap64 (Int.tdiv x4 3)) 4 x8).bind fun E0 => ((Fp.f k u0 o0 n0 x8 x4 ([] : List (Qaz)) x6 E0.1 E0.2).bind fun C0 => (F5.l2 k x0 x4 x6 (wrap64 (x8 + 1)) C0.1 C0.2.1 C0.2.2.1))) else ((Fp.f k u0 o0 n0 x8 x4 ([] : List (Qaz)) x6 0 0).bind fun A0 => (F5.l2 k x0 x4 x6 (wrap64 (x8 + 1)) A0.1 A0.2.1 A0.2.2.1))) else (F5.l0 k x0 (wrap64 (x4 + 1)) u0 o0 n0)
end
def F5.f (k : Nat) (a0 : Int) : Option (Int × Int × (List (S32))) := F5.l0 k a0 1 4 0 ([] : List (S32))
theorem F5.calls (k : Nat) (a0 r1 r2 : Int) (r3 : List (S32)) (w : World) (h : F5.f k a0 = some (r1, r2, r3)) :
  Calls Tryz.prog 26 #[.int .i64 a0] w fun e w' => ∃ U6 : Value, e = .returned (.agg #[.int .i64 r1, .int .i64 r2, U6]) ∧ Kd.V k32 32 w' w.heap.size (fun k_ => (w.heap.size ≤ k_)) U6 r3 ∧ Below w.heap.size w w' := by
 have k7 := Tryz.underlying24; have j7 := Tryz.underlying30; have w7 := Tryz.underlying28; have HB := am_ (Below.refl w.heap.size w); have H := h; unfold F5.f at H; clear h; have H' := am_ H; clear H; go_enter Tryz.func26, Tryz.ntmps26
 go_wp2_with (first | (refine bf_ 2 #[.int .i64 0, .int .i64 0, .slice none 0 0] 24 HB ?_; intro P0 hg w2 hb o0 P6 HB; clear hb hg) | (refine bf_ 3 #[.int .i64 0, .int .i64 0, .slice none 0 0] 24 HB ?_; intro L0 hg w3 hb n0 R6 HB; obtain ⟨N4, X0⟩ := tN o0 hg; replace o0 := tBb o0 hb; clear hb hg; have _ := n2 X0; obtain ⟨j6, W5, l6, Q5, A6, J6⟩ := bx3 n0))
 go_loopg [4] k (fun kq v4 w' => ∃ (U0 : Int) (E0 : Int) (I0 : Int) (C0 : List (S32)) (V0 : Value), v4 = .int .i64 U0 ∧ Asc (F5.l0 kq a0 U0 E0 I0 C0 = some (r1, r2, r3)) ∧ Asc (kq ≤ k) ∧ Asc (Kd.V k32 32 w' w.heap.size (fun k_ => (w.heap.size ≤ k_) ∧ k_ ≠ P0 ∧ k_ ≠ L0) V0 C0) ∧ Asc (w'.heap[P0]? = some (.cells #[.int .i64 0, .int .i64 0, (.slice none 0 0)] 24 (0, 0))) ∧ Asc (w'.heap[L0]? = some (.cells #[.int .i64 E0, .int .i64 I0, V0] 24 (0, 0))) ∧ Asc (Below w.heap.size w w'))
 case atStart => exact ⟨(1), (4), (0), (([] : List (S32))), (.slice none 0 0), fr, H', ⟨Nat.le_refl _⟩, ⟨Kd.V_nil _ _ _ _ _⟩, ⟨gB o0⟩, ⟨gP n0 rfl⟩, ⟨bh HB⟩⟩
 case round =>
  clear H'; try clear j6 W5 l6 Q5 A6 J6
  obtain ⟨U0, E0, I0, C0, V0, rfl, HA, C4, HO_466002, o0, n0, HB⟩ := hrel
  cases gk with
  | zero => exact absurd HA.out (by simp [F5.l0])
  | succ k1 =>
   have H := HA.out; clear HA; simp only [F5.l0] at H
   by_cases c6 : U0 ≤ a0
   ·
    rw [if_pos c6] at H; have Z4 := dT c6; clear c6; replace H := bi H; obtain ⟨P1, A7, H⟩ := H; try dsimp only at H
    have H' := am_ H; clear H; have _ := n2 X0; obtain ⟨r6, L6, M6, Z5, i6, N6⟩ := bx3 n0; obtain ⟨V3, Y3, rfl⟩ := Kd.V_slice HO_466002.out
    go_wp2_with (first | (refine gl_ (some 19) Tryz.func36 #[.agg #[.int .i64 E0, .int .i64 I0, .slice V3 C0.length Y3], .int .i64 (wrap64 (U0 - 1))] ?_; (with_reducible refine (F6.calls k1 E0 I0 (fun k_ => ((w.heap.size ≤ k_) ∧ (k_ ≠ P0 ∧ k_ ≠ L0))) _ _ C0 (wrap64 (U0 - 1)) P1 _ ?O1 A7.out).mono ?_); (case O1 => exact HO_466002.out); rintro e J7 ⟨k5, rfl, Y1, hb⟩; refine ⟨_, rfl, ?_⟩; replace HO_466002 := am_ (Kd.V_elder' (hV HO_466002) (Kd.N_base Y1) hb); have V4 := lqN (fun k_ => (w.heap.size ≤ k_) ∧ k_ ≠ P0 ∧ k_ ≠ L0) Y1 HB; replace o0 := tBb o0 hb; replace n0 := tBb n0 hb; replace HB := tHb HB hb; (try clear hb Y1)))
    go_loopg [6, 7] k1 (fun kq v6 v7 w' => ∃ (Q0 : List ByteArray) (D1 : Int), v7 = .int .i64 D1 ∧ Asc (F5.l1 kq a0 U0 P1 Q0 D1 E0 I0 C0 = some (r1, r2, r3)) ∧ Asc (kq ≤ k1) ∧ Asc (Kd.N k32 32 w' w.heap.size (fun k_ => (w.heap.size ≤ k_) ∧ some k_ ≠ (v6 : Value).ownBlock ∧ k_ ≠ P0 ∧ k_ ≠ L0) k5 P1) ∧ Asc (Kd.R Kd.string 9 w' w.heap.size (fun k_ => (w.heap.size ≤ k_)) v6 Q0) ∧ Asc (Kd.V k32 32 w' w.heap.size (fun k_ => (w.heap.size ≤ k_) ∧ some k_ ≠ (k5 : Value).ownBlock ∧ k_ ≠ P0 ∧ k_ ≠ L0) (.slice V3 C0.length Y3) C0) ∧ Asc (w'.heap[P0]? = some (.cells #[.int .i64 0, .int .i64 0, (.slice none 0 0)] 24 (0, 0))) ∧ Asc (w'.heap[L0]? = some (.cells #[.int .i64 E0, .int .i64 I0, (.slice V3 C0.length Y3)] 24 (0, 0))) ∧ Asc (Below w.heap.size w w'))
    case atStart => exact ⟨(([] : List ByteArray)), (0), fr, H', ⟨Nat.le_refl _⟩, ⟨gN V4⟩, ⟨kn⟩, ⟨gV HO_466002⟩, ⟨gB o0⟩, ⟨gB n0⟩, ⟨bh HB⟩⟩
    case round =>
     clear H'; try clear Z4 r6 L6 M6 Z5 i6 N6
     obtain ⟨Q0, D1, rfl, HA, u4, HO_5, HO_6, HO_466002, o0, n0, HB⟩ := hrel
     cases gk with
     | zero => exact absurd HA.out (by simp [F5.l1])
     | succ k2 =>
      have H := HA.out; clear HA; simp only [F5.l1] at H
      by_cases Q4 : D1 < (P1.length : Int)
      ·
       rw [if_pos Q4] at H; have s4 := dT Q4; clear Q4; revert H; refine gi (fun Q6 H => ?_); replace H := bi H; obtain ⟨W4, W6, H⟩ := H; try dsimp only at H
       have H' := am_ H; clear H; obtain ⟨m7, Z6, s6⟩ := Kd.N_slice HO_5.out; subst s6; have Z3 : 0 ≤ (D1 : Int) := dt; have k4 : D1 < (P1.length : Int) := dt; obtain ⟨O6, K6, z6, S5, U5, k6, K5, J5, I5, X3, S3, N5, A5, D2, Y2, V2, J2⟩ := Qao (Kd.N_reads' HO_5.out).2.2 D1 Z3 k4; cases k6; obtain ⟨S6, I4, L4, C2⟩ := Kd.N_get HO_5.out z32 D1 Z3 (by first | exact k4 | exact dt | (have e_ := (Kd.N_reads' HO_5.out).1; omega)); obtain ⟨E5, M5, s5, L5, rfl, X1, U1, V1, Q1⟩ := Qap L4; have L1 := C2 3 _ rfl; rw [Qaf _ _ 3 (by omega)] at L1; replace L1 := Option.some.inj (L1.symm.trans X3)
       injection L1 with hva_ hvn_ hvc_
       rw [hva_] at U1; rw [hvc_] at X1; have N2 := am_ (show Kd.V Qbm 107 _ w.heap.size _ _ ((Qab P1 D1).f1.f2) from Kd.V_mk X1 U1); clear hva_ hvn_ hvc_ U1 X1; have N1 := C2 4 _ rfl; rw [Qaf _ _ 4 (by omega)] at N1; replace N1 := Option.some.inj (N1.symm.trans S3)
       injection N1 with hva_ hvn_ hvc_
       rw [hva_] at Q1; rw [hvc_] at V1; have Z2 := am_ (show Kd.V Kd.string 9 _ w.heap.size _ _ ((Qab P1 D1).f1.f3) from Kd.V_mk V1 Q1); clear hva_ hvn_ hvc_ Q1 V1 C2 I4; have Q2 := am_ Y2; have D5 := am_ D2; clear Y2 D2; have L2 := am_ J2; have C5 := am_ V2; clear J2 V2; replace Z3 := eq_true Z3; replace k4 := eq_true k4; obtain ⟨E6, V5, p6⟩ := Kd.R_slice HO_6.out; subst p6
       go_wp2_with (first | (refine gl_ (some 32) Tryz.func48 #[.slice E6 Q0.length V5, .string ((Qab P1 D1).f0)] ?_; (with_reducible refine (Fs.calls k2 _ _ Q0 ((Qab P1 D1).f0) W4 _ ?O1 ?Z1 W6.out).mono ?_); (case O1 => repeat (first | exact (Kd.R_reads' HO_6.out).2.2 | (with_reducible refine Kd.C_alloc ?_ _) | (with_reducible refine Kd.C_drewN ?_ _) | (with_reducible refine Kd.C_drew ?_))); (case Z1 => exact (Kd.R_reads' HO_6.out).2.1); rintro e I7 ⟨s7, rfl, Y1, hb⟩; refine ⟨_, rfl, ?_⟩; replace HO_5 := am_ (Kd.N_elder' (hN HO_5) (Kd.R_base Y1) hb); replace HO_466002 := am_ (Kd.V_elder' (hV HO_466002) (Kd.R_base Y1) hb); replace N2 := am_ (Kd.V_elder' (hV N2) (Kd.R_base Y1) hb); replace Z2 := am_ (Kd.V_elder' (hV Z2) (Kd.R_base Y1) hb); have R4 := am_ (Kd.R_lower (Kd.R_new' (Kd.R_newM (M := fun k_ => (w.heap.size ≤ k_)) Y1 (Qac (bh HB)) (fun k_ h_ => h_)) (Kd.R_lt (hR HO_6))) (Qac (bh HB))); replace HO_6 := am_ (Kd.R_elder' (hR HO_6) (Kd.R_base Y1) hb); replace o0 := tBb o0 hb; replace n0 := tBb n0 hb; replace Q2 := tCb Q2 hb; replace L2 := tCb L2 hb; replace HB := tHb HB hb; (try clear hb Y1)))
       go_roundg k2
       case measure => have := C4.out; have := u4.out; omega
       case rel => exact ⟨(W4), (wrap64 (D1 + 1)), fr, H', ⟨by have := C4.out; have := u4.out; omega⟩, ⟨gN HO_5⟩, ⟨gR R4⟩, ⟨gV HO_466002⟩, ⟨gB o0⟩, ⟨gB n0⟩, ⟨bh HB⟩⟩
      rw [if_neg Q4] at H; have s4 := dF Q4; clear Q4; have H' := am_ H; clear H; obtain ⟨p7, Y6, q6⟩ := Kd.N_slice HO_5.out; subst q6; go_wp2
      go_loopg [8] k2 (fun kq v8 w' => ∃ (Y0 : Int) (M0 : Int) (O0 : Int) (N0 : List (S32)) (V0 : Value), v8 = .int .i64 Y0 ∧ Asc (F5.l2 kq a0 U0 Q0 Y0 M0 O0 N0 = some (r1, r2, r3)) ∧ Asc (kq ≤ k2) ∧ Asc (Kd.R Kd.string 9 w' w.heap.size (fun k_ => (w.heap.size ≤ k_)) u6 Q0) ∧ Asc (Kd.V k32 32 w' w.heap.size (fun k_ => (w.heap.size ≤ k_) ∧ k_ ≠ P0 ∧ k_ ≠ L0) V0 N0) ∧ Asc (w'.heap[P0]? = some (.cells #[.int .i64 0, .int .i64 0, (.slice none 0 0)] 24 (0, 0))) ∧ Asc (w'.heap[L0]? = some (.cells #[.int .i64 M0, .int .i64 O0, V0] 24 (0, 0))) ∧ Asc (Below w.heap.size w w'))
      case atStart => exact ⟨(1), (E0), (I0), (C0), (.slice V3 C0.length Y3), fr, H', ⟨Nat.le_refl _⟩, ⟨hR HO_6⟩, ⟨gV HO_466002⟩, ⟨gB o0⟩, ⟨gB n0⟩, ⟨bh HB⟩⟩
      case round =>
       clear H'; try clear s4
       obtain ⟨Y0, M0, O0, N0, V0, rfl, HA, P4, HO_6, HO_466002, o0, n0, HB⟩ := hrel
       cases gk with
       | zero => exact absurd HA.out (by simp [F5.l2])
       | succ k3 =>
        have H := HA.out; clear HA; simp only [F5.l2] at H
        by_cases O4 : Y0 ≤ 4
        ·
         rw [if_pos O4] at H; have i5 := dT O4; clear O4
         by_cases p5 : (Int.tmod U0 3) = 0
         ·
          rw [if_pos p5] at H; obtain ⟨U4, Y4⟩ := et p5; clear p5; replace H := bi H; obtain ⟨⟨s3, J3⟩, g7, H⟩ := H; try dsimp only at H
          replace H := bi H; obtain ⟨⟨K4, E4, U3, D6⟩, i7, H⟩ := H; try dsimp only at H
          have H' := am_ H; clear H; obtain ⟨u3, D3, X5⟩ := Kd.R_slice HO_6.out; subst X5
          go_wp2_with (first | (refine bf_ 9 #[.int .i64 0, .int .i64 0, .slice none 0 0, .slice none 0 0, .int .i64 0, .int .i64 0] 30 HB ?_; intro A0 hg z7 hb u0 S4 HB; replace HO_6 := tRb HO_6 hb; replace HO_466002 := tVe HO_466002 hg hb; obtain ⟨m3, C1⟩ := tN o0 hg; replace o0 := tBb o0 hb; obtain ⟨I3, Z0⟩ := tN n0 hg; replace n0 := tBb n0 hb; clear hb hg; have _ := n2 C1; have _ := n2 Z0; have _ := bx6 u0) | (refine gl_ (some 47) Tryz.func44 #[.string (⟨#[]⟩ : ByteArray), .int .i64 (wrap64 (Int.tdiv U0 3)), .int .i64 4, .int .i64 Y0] ?_; (with_reducible refine (Gh.calls k3 (⟨#[]⟩ : ByteArray) (wrap64 (Int.tdiv U0 3)) 4 Y0 s3 J3 _ g7.out).mono ?_); rintro e X6 ⟨rfl, hb⟩; refine ⟨_, rfl, ?_⟩; replace HO_6 := am_ (Kd.R_below (by (with_reducible repeat (first | apply Kd.R_alloc | apply Kd.R_drewN | apply Kd.R_drew)); exact (Kd.R_mono (Kd.R_far (p := ⟨A0, 5, none⟩) (Kd.R_far (p := ⟨A0, 4, none⟩) (Kd.R_far (p := ⟨A0, 3, none⟩) (Kd.R_far (p := ⟨A0, 2, none⟩) (Kd.R_far (p := ⟨A0, 1, none⟩) (Kd.R_far (p := ⟨A0, 0, none⟩) (Kd.R_types HO_6.out u0.out (by decide)) (fun _ hk => hk.2) (.int .i64 Y0)) (fun _ hk => hk.2) (.int .i64 U0)) (fun _ hk => hk.2) (.slice none 0 0)) (fun _ hk => hk.2) (.slice u3 Q0.length D3)) (fun _ hk => hk.2) (.int .i64 0)) (fun _ hk => hk.2) (.int .i64 0)) (fun _ h_ => h_.1))) hb); replace HO_466002 := tVb HO_466002 hb; replace o0 := tBb o0 hb; replace n0 := tBb n0 hb; replace u0 := am_ (Qam (g := A0) (o := .cells #[.int .i64 Y0, .int .i64 U0, .slice none 0 0, .slice u3 Q0.length D3, .int .i64 0, .int .i64 0] 30 (0, 0)) (gP u0 rfl) hb); replace HB := tHb HB hb; (try clear hb); have _ := bx6 u0) | ((with_reducible refine Qar (t := 28) (p := 48) rfl ?_); refine se_ 28 48 ((X6.setCell ⟨A0, 4, none⟩ (.int .i64 s3)).setCell ⟨A0, 5, none⟩ (.int .i64 J3)) ?_; intro t7 hw; replace HO_6 : Asc (Kd.R Kd.string 9 t7 w.heap.size (fun k_ => (w.heap.size ≤ k_)) (.slice u3 Q0.length D3) Q0) := ⟨(by rw [hw]; exact (by (with_reducible repeat (first | apply Kd.R_alloc | apply Kd.R_drewN | apply Kd.R_drew)); exact Kd.R_mono (Kd.R_far (p := ⟨A0, 5, none⟩) (Kd.R_far (p := ⟨A0, 4, none⟩) (Kd.R_types HO_6.out u0.out (by decide)) (fun _ hk => hk.2) (.int .i64 s3)) (fun _ hk => hk.2) (.int .i64 J3)) (fun _ hk => hk.1)))⟩; replace HO_466002 := gVw (fun k_ => (w.heap.size ≤ k_) ∧ k_ ≠ P0 ∧ k_ ≠ L0 ∧ k_ ≠ A0) HO_466002 hw; replace o0 := sB o0 hw; replace n0 := sB n0 hw; replace u0 := sP #[.int .i64 Y0, .int .i64 U0, .slice none 0 0, .slice u3 Q0.length D3, .int .i64 s3, .int .i64 J3] u0 hw; replace HB := sH HB hw; clear hw; have _ := n2 X0; have _ := bx3 n0; have _ := bx6 u0; obtain ⟨o6, R5, rfl⟩ := Kd.V_slice HO_466002.out) | (refine gl_ (some 52) Tryz.func25 #[.agg #[.int .i64 M0, .int .i64 O0, .slice o6 N0.length R5], .agg #[.int .i64 Y0, .int .i64 U0, .slice none 0 0, .slice u3 Q0.length D3, .int .i64 s3, .int .i64 J3]] ?_; (refine (Fp.calls k3 M0 O0 (fun k_ => ((w.heap.size ≤ k_) ∧ (k_ ≠ P0 ∧ (k_ ≠ L0 ∧ k_ ≠ A0)))) _ _ N0 Y0 U0 (fun k_ => False) _ _ ([] : List (Qaz)) (fun k_ => some k_ = (.slice u3 Q0.length D3 : Value).ownBlock) _ _ Q0 s3 J3 K4 E4 U3 D6 _ ?O1 ?Z1 ?N3 i7.out).mono ?_); (case O1 => exact HO_466002.out); (case Z1 => exact Kd.V_nil _ _ _ _ _); (case N3 => exact Kd.R_V (Kd.R_tight rfl (Kd.R_types (Kd.R_types (Kd.R_types (HO_6.out) o0.out (by decide)) n0.out (by decide)) u0.out (by decide)))); rintro e C7 ⟨l7, rfl, Y1, hb⟩; refine ⟨_, rfl, ?_⟩; replace HO_466002 := tVb HO_466002 hb; have D4 := lo (fun k_ => (w.heap.size ≤ k_) ∧ k_ ≠ P0 ∧ k_ ≠ L0 ∧ k_ ≠ A0) Y1 (fun k_ hk_ => ⟨Or.elim hk_ (fun hs_ => Or.elim hs_ (fun hs_ => hs_.1) (fun hs_ => Or.elim hs_ (fun hs_ => (hs_).elim) (fun hs_ => ((Kd.R_types (Kd.R_types (Kd.R_types (HO_6.out) o0.out (by decide)) n0.out (by decide)) u0.out (by decide)).1 k_ hs_.symm).1.1.1))) (fun hn_ => (Nat.le_trans (Qac (bh HB)) hn_)), Or.elim hk_ (fun hs_ => Or.elim hs_ (fun hs_ => hs_.2.1) (fun hs_ => Or.elim hs_ (fun hs_ => (hs_).elim) (fun hs_ => ((Kd.R_types (Kd.R_types (Kd.R_types (HO_6.out) o0.out (by decide)) n0.out (by decide)) u0.out (by decide)).1 k_ hs_.symm).1.1.2))) (fun hn_ => (gFr o0 k_ hn_)), Or.elim hk_ (fun hs_ => Or.elim hs_ (fun hs_ => hs_.2.2.1) (fun hs_ => Or.elim hs_ (fun hs_ => (hs_).elim) (fun hs_ => ((Kd.R_types (Kd.R_types (Kd.R_types (HO_6.out) o0.out (by decide)) n0.out (by decide)) u0.out (by decide)).1 k_ hs_.symm).1.2))) (fun hn_ => (gFr n0 k_ hn_)), Or.elim hk_ (fun hs_ => Or.elim hs_ (fun hs_ => hs_.2.2.2) (fun hs_ => Or.elim hs_ (fun hs_ => (hs_).elim) (fun hs_ => ((Kd.R_types (Kd.R_types (Kd.R_types (HO_6.out) o0.out (by decide)) n0.out (by decide)) u0.out (by decide)).1 k_ hs_.symm).2))) (fun hn_ => (gFr u0 k_ hn_))⟩) HB; replace HO_6 := tRb HO_6 hb; replace o0 := tBb o0 hb; replace n0 := tBb n0 hb; replace u0 := tBb u0 hb; replace HB := tHb HB hb; (try clear hb Y1); have _ := bx3 n0; obtain ⟨l5, c5, rfl⟩ := Kd.V_slice D4.out))
          go_roundg k3
          case measure => have := C4.out; have := u4.out; have := P4.out; omega
          case rel => exact ⟨(wrap64 (Y0 + 1)), (K4), (E4), (U3), (.slice l5 U3.length c5), fr, H', ⟨by have := C4.out; have := u4.out; have := P4.out; omega⟩, ⟨by (with_reducible repeat (first | apply Kd.R_alloc | apply Kd.R_drewN | apply Kd.R_drew)); exact Kd.R_mono (Kd.R_far (p := ⟨L0, 2, none⟩) (Kd.R_far (p := ⟨L0, 1, none⟩) (Kd.R_far (p := ⟨L0, 0, none⟩) (Kd.R_types HO_6.out n0.out (by decide)) (fun _ hk => hk.2) (.int .i64 K4)) (fun _ hk => hk.2) (.int .i64 E4)) (fun _ hk => hk.2) (.slice l5 U3.length c5)) (fun _ hk => hk.1)⟩, ⟨gV D4⟩, ⟨gB o0⟩, ⟨gP n0 rfl⟩, ⟨bh HB⟩⟩
         rw [if_neg p5] at H; obtain ⟨U4, Y4⟩ := ef p5; replace H := bi H; obtain ⟨⟨J4, M4, Q3, C6⟩, V6, H⟩ := H; try dsimp only at H
         have H' := am_ H; clear H; obtain ⟨L3, C3, I6⟩ := Kd.R_slice HO_6.out; subst I6
         go_wp2_with (first | (refine bf_ 9 #[.int .i64 0, .int .i64 0, .slice none 0 0, .slice none 0 0, .int .i64 0, .int .i64 0] 30 HB ?_; intro A0 hg o7 hb u0 S4 HB; replace HO_6 := tRb HO_6 hb; replace HO_466002 := tVe HO_466002 hg hb; obtain ⟨m3, C1⟩ := tN o0 hg; replace o0 := tBb o0 hb; obtain ⟨I3, Z0⟩ := tN n0 hg; replace n0 := tBb n0 hb; clear hb hg; have _ := n2 C1; have _ := n2 Z0; have _ := bx6 u0) | ((with_reducible refine Qar (t := 30) (p := 9) rfl ?_); refine se_ 30 9 ((((((o7.setCell ⟨A0, 0, none⟩ (.int .i64 Y0)).setCell ⟨A0, 1, none⟩ (.int .i64 U0)).setCell ⟨A0, 2, none⟩ (.slice none 0 0)).setCell ⟨A0, 3, none⟩ (.slice L3 Q0.length C3)).setCell ⟨A0, 4, none⟩ (.int .i64 0)).setCell ⟨A0, 5, none⟩ (.int .i64 0)) ?_; intro d7 hw; replace HO_6 : Asc (Kd.R Kd.string 9 d7 w.heap.size (fun k_ => (w.heap.size ≤ k_)) (.slice L3 Q0.length C3) Q0) := ⟨(by rw [hw]; exact (by (with_reducible repeat (first | apply Kd.R_alloc | apply Kd.R_drewN | apply Kd.R_drew)); exact Kd.R_mono (Kd.R_far (p := ⟨A0, 5, none⟩) (Kd.R_far (p := ⟨A0, 4, none⟩) (Kd.R_far (p := ⟨A0, 3, none⟩) (Kd.R_far (p := ⟨A0, 2, none⟩) (Kd.R_far (p := ⟨A0, 1, none⟩) (Kd.R_far (p := ⟨A0, 0, none⟩) (Kd.R_types HO_6.out u0.out (by decide)) (fun _ hk => hk.2) (.int .i64 Y0)) (fun _ hk => hk.2) (.int .i64 U0)) (fun _ hk => hk.2) (.slice none 0 0)) (fun _ hk => hk.2) (.slice L3 Q0.length C3)) (fun _ hk => hk.2) (.int .i64 0)) (fun _ hk => hk.2) (.int .i64 0)) (fun _ hk => hk.1)))⟩; replace HO_466002 := gVw (fun k_ => (w.heap.size ≤ k_) ∧ k_ ≠ P0 ∧ k_ ≠ L0 ∧ k_ ≠ A0) HO_466002 hw; replace o0 := sB o0 hw; replace n0 := sB n0 hw; replace u0 := sP #[.int .i64 Y0, .int .i64 U0, .slice none 0 0, .slice L3 Q0.length C3, .int .i64 0, .int .i64 0] u0 hw; replace HB := sH HB hw; clear hw; have _ := n2 X0; have _ := bx3 n0; have _ := bx6 u0; obtain ⟨P5, Y5, rfl⟩ := Kd.V_slice HO_466002.out) | (refine gl_ (some 52) Tryz.func25 #[.agg #[.int .i64 M0, .int .i64 O0, .slice P5 N0.length Y5], .agg #[.int .i64 Y0, .int .i64 U0, .slice none 0 0, .slice L3 Q0.length C3, .int .i64 0, .int .i64 0]] ?_; (refine (Fp.calls k3 M0 O0 (fun k_ => ((w.heap.size ≤ k_) ∧ (k_ ≠ P0 ∧ (k_ ≠ L0 ∧ k_ ≠ A0)))) _ _ N0 Y0 U0 (fun k_ => False) _ _ ([] : List (Qaz)) (fun k_ => some k_ = (.slice L3 Q0.length C3 : Value).ownBlock) _ _ Q0 0 0 J4 M4 Q3 C6 _ ?O1 ?Z1 ?N3 V6.out).mono ?_); (case O1 => exact HO_466002.out); (case Z1 => exact Kd.V_nil _ _ _ _ _); (case N3 => exact Kd.R_V (Kd.R_tight rfl (Kd.R_types (Kd.R_types (Kd.R_types (HO_6.out) o0.out (by decide)) n0.out (by decide)) u0.out (by decide)))); rintro e D7 ⟨f7, rfl, Y1, hb⟩; refine ⟨_, rfl, ?_⟩; replace HO_466002 := tVb HO_466002 hb; have m4 := lo (fun k_ => (w.heap.size ≤ k_) ∧ k_ ≠ P0 ∧ k_ ≠ L0 ∧ k_ ≠ A0) Y1 (fun k_ hk_ => ⟨Or.elim hk_ (fun hs_ => Or.elim hs_ (fun hs_ => hs_.1) (fun hs_ => Or.elim hs_ (fun hs_ => (hs_).elim) (fun hs_ => ((Kd.R_types (Kd.R_types (Kd.R_types (HO_6.out) o0.out (by decide)) n0.out (by decide)) u0.out (by decide)).1 k_ hs_.symm).1.1.1))) (fun hn_ => (Nat.le_trans (Qac (bh HB)) hn_)), Or.elim hk_ (fun hs_ => Or.elim hs_ (fun hs_ => hs_.2.1) (fun hs_ => Or.elim hs_ (fun hs_ => (hs_).elim) (fun hs_ => ((Kd.R_types (Kd.R_types (Kd.R_types (HO_6.out) o0.out (by decide)) n0.out (by decide)) u0.out (by decide)).1 k_ hs_.symm).1.1.2))) (fun hn_ => (gFr o0 k_ hn_)), Or.elim hk_ (fun hs_ => Or.elim hs_ (fun hs_ => hs_.2.2.1) (fun hs_ => Or.elim hs_ (fun hs_ => (hs_).elim) (fun hs_ => ((Kd.R_types (Kd.R_types (Kd.R_types (HO_6.out) o0.out (by decide)) n0.out (by decide)) u0.out (by decide)).1 k_ hs_.symm).1.2))) (fun hn_ => (gFr n0 k_ hn_)), Or.elim hk_ (fun hs_ => Or.elim hs_ (fun hs_ => hs_.2.2.2) (fun hs_ => Or.elim hs_ (fun hs_ => (hs_).elim) (fun hs_ => ((Kd.R_types (Kd.R_types (Kd.R_types (HO_6.out) o0.out (by decide)) n0.out (by decide)) u0.out (by decide)).1 k_ hs_.symm).2))) (fun hn_ => (gFr u0 k_ hn_))⟩) HB; replace HO_6 := tRb HO_6 hb; replace o0 := tBb o0 hb; replace n0 := tBb n0 hb; replace u0 := tBb u0 hb; replace HB := tHb HB hb; (try clear hb Y1); have _ := bx3 n0; obtain ⟨m5, X4, rfl⟩ := Kd.V_slice m4.out))
         go_roundg k3
         case measure => have := C4.out; have := u4.out; have := P4.out; omega
         case rel => exact ⟨(wrap64 (Y0 + 1)), (J4), (M4), (Q3), (.slice m5 Q3.length X4), fr, H', ⟨by have := C4.out; have := u4.out; have := P4.out; omega⟩, ⟨by (with_reducible repeat (first | apply Kd.R_alloc | apply Kd.R_drewN | apply Kd.R_drew)); exact Kd.R_mono (Kd.R_far (p := ⟨L0, 2, none⟩) (Kd.R_far (p := ⟨L0, 1, none⟩) (Kd.R_far (p := ⟨L0, 0, none⟩) (Kd.R_types HO_6.out n0.out (by decide)) (fun _ hk => hk.2) (.int .i64 J4)) (fun _ hk => hk.2) (.int .i64 M4)) (fun _ hk => hk.2) (.slice m5 Q3.length X4)) (fun _ hk => hk.1)⟩, ⟨gV m4⟩, ⟨gB o0⟩, ⟨gP n0 rfl⟩, ⟨bh HB⟩⟩
        rw [if_neg O4] at H; have i5 := dF O4; clear O4; have H' := am_ H; clear H; go_wp2; go_roundg k3
        case measure => have := C4.out; have := u4.out; have := P4.out; omega
        case rel => exact ⟨(wrap64 (U0 + 1)), (M0), (O0), (N0), (V0), fr, H', ⟨by have := C4.out; have := u4.out; have := P4.out; omega⟩, ⟨hV HO_466002⟩, ⟨gB o0⟩, ⟨gB n0⟩, ⟨bh HB⟩⟩
   rw [if_neg c6] at H; have Z4 := dF c6; clear c6; replace H := oi3 H; obtain ⟨rfl, rfl, rfl⟩ := H; have _ := n2 X0; have _ := bx3 n0; have _ := bx3 o0; obtain ⟨m6, O5, rfl⟩ := Kd.V_slice HO_466002.out; go_wp2; refine bodyPost_ret (results_cell_row rfl _ _ P0 24 #[.int .i64 E0, .int .i64 I0, .slice m6 C0.length O5] (0, 0) _ rfl (gP o0 rfl) Tryz.underlying24 rfl (by kernel_rfl)) rfl ?_; exact ⟨_, fe, gV HO_466002, bh HB⟩
def Gz.f (k : Nat)  : Option (Bool) := (F5.f k 3).bind fun n0 => ((F2.f k n0.1 n0.2.1 n0.2.2 0).bind fun o0 => (if (o0.1.length : Int) = 1 then (some (o0.2 == 1)) else (some false)))
theorem Gz.calls (k : Nat)  (r : Bool) (w : World) (h : Gz.f k  = some r) :
  Calls Tryz.prog 7 #[] w fun e w' => e = .returned (.bool r) ∧ Below w.heap.size w w' := by
 have HB := am_ (Below.refl w.heap.size w); have H := h; unfold Gz.f at H; clear h; replace H := bi H; obtain ⟨⟨u0, o0, A0⟩, A1, H⟩ := H; try dsimp only at H
 replace H := bi H; obtain ⟨⟨L0, M0⟩, A2, H⟩ := H; try dsimp only at H
 by_cases c3 : (L0.length : Int) = 1
 ·
  rw [if_pos c3] at H; obtain ⟨Q0, O0⟩ := et c3; clear c3; obtain rfl := Option.some.inj H; go_enter Tryz.func7, Tryz.ntmps7
  go_wp2_with (first | (refine gl_ (some 4) Tryz.func26 #[.int .i64 3] ?_; (with_reducible refine (F5.calls k 3 u0 o0 A0 _ A1.out).mono ?_); rintro e w4 ⟨N0, rfl, C0, hb⟩; refine ⟨_, rfl, ?_⟩; have n0 := am_ (Kd.V_lower (Kd.V_mono (ok' := fun k_ => True) C0 (fun k_ hk_ => trivial)) (Qac (bh HB))); replace HB := tHb HB hb; (try clear hb C0); obtain ⟨D1, X0, rfl⟩ := Kd.V_slice n0.out) | (refine gl_ (some 5) Tryz.func19 #[.agg #[.int .i64 u0, .int .i64 o0, .slice D1 A0.length X0], .int .i64 0] ?_; (with_reducible refine (F2.calls k u0 o0 (fun k_ => True) _ _ A0 0 L0 M0 _ ?I0 A2.out).mono ?_); (case I0 => exact n0.out); rintro e w6 ⟨U0, rfl, C0, hb⟩; refine ⟨_, rfl, ?_⟩; replace n0 := am_ (Kd.V_elder' (hV n0) (Kd.N_base C0) hb); have E0 := am_ (Kd.N_lower (Kd.N_mono (ok' := fun k_ => True) C0 (fun k_ hk_ => trivial)) (Qac (bh HB))); replace HB := tHb HB hb; (try clear hb C0); obtain ⟨O1, N1, L1⟩ := Kd.N_slice E0.out; subst L1))
  go_ret; exact ⟨fe, bh HB⟩
 rw [if_neg c3] at H; obtain ⟨Q0, O0⟩ := ef c3; obtain rfl := Option.some.inj H; go_enter Tryz.func7, Tryz.ntmps7
 go_wp2_with (first | (refine gl_ (some 4) Tryz.func26 #[.int .i64 3] ?_; (with_reducible refine (F5.calls k 3 u0 o0 A0 _ A1.out).mono ?_); rintro e w8 ⟨N0, rfl, C0, hb⟩; refine ⟨_, rfl, ?_⟩; have n0 := am_ (Kd.V_lower (Kd.V_mono (ok' := fun k_ => True) C0 (fun k_ hk_ => trivial)) (Qac (bh HB))); replace HB := tHb HB hb; (try clear hb C0); obtain ⟨Y0, C1, rfl⟩ := Kd.V_slice n0.out) | (refine gl_ (some 5) Tryz.func19 #[.agg #[.int .i64 u0, .int .i64 o0, .slice Y0 A0.length C1], .int .i64 0] ?_; (with_reducible refine (F2.calls k u0 o0 (fun k_ => True) _ _ A0 0 L0 M0 _ ?I0 A2.out).mono ?_); (case I0 => exact n0.out); rintro e P1 ⟨U0, rfl, C0, hb⟩; refine ⟨_, rfl, ?_⟩; replace n0 := am_ (Kd.V_elder' (hV n0) (Kd.N_base C0) hb); have E0 := am_ (Kd.N_lower (Kd.N_mono (ok' := fun k_ => True) C0 (fun k_ hk_ => trivial)) (Qac (bh HB))); replace HB := tHb HB hb; (try clear hb C0); obtain ⟨Z0, V0, P0⟩ := Kd.N_slice E0.out; subst P0))
 go_ret; exact ⟨fe, bh HB⟩

def G9.l0 : Nat → Int → Int → Int → List (S32) → Option (Bool)
 | 0, _, _, _, _ => none
 | k + 1, x3, u0, o0, n0 => if x3 < (n0.length : Int) then (if 0 ≤ x3 then (if ((Qab n0 x3).f1.f1) > 60 then (some false) else (G9.l0 k (wrap64 (x3 + 1)) u0 o0 n0)) else (none)) else (some (decide ((n0.length : Int) ≤ 60)))
def G9.f (k : Nat) (a0_0 a0_1 : Int) (l0_2 : List (S32)) : Option (Bool) := G9.l0 k 0 a0_0 a0_1 l0_2
theorem G9.calls (k : Nat) (a0_0 a0_1 : Int) (A0_2 : Option Addr) (c0_2 : Nat) (l0_2 : List (S32)) (r : Bool) (w : World) (hr0_2 : Kd.C k32 w A0_2 l0_2.length l0_2) (hc0_2 : l0_2.length ≤ c0_2) (h : G9.f k a0_0 a0_1 l0_2 = some r) :
  Calls Tryz.prog 8 #[.agg #[.int .i64 a0_0, .int .i64 a0_1, .slice A0_2 l0_2.length c0_2]] w fun e w' => e = .returned (.bool r) ∧ Below w.heap.size w w' := by
 have L2 := Tryz.underlying24; have D1 := am_ hr0_2; have Z1 := am_ hc0_2; clear hr0_2 hc0_2; have HB := am_ (Below.refl w.heap.size w); have H := h; unfold G9.f at H; clear h; have H' := am_ H; clear H; go_enter Tryz.func8, Tryz.ntmps8
 go_wp2_with (first | (refine bf_ 1 #[.int .i64 a0_0, .int .i64 a0_1, .slice A0_2 l0_2.length c0_2] 24 HB ?_; intro V1 hg w2 hb Q0 D2 HB; clear hb hg))
 go_loopg [3] k (fun kq v3 w' => ∃ (o0 : Int), v3 = .int .i64 o0 ∧ Asc (G9.l0 kq o0 a0_0 a0_1 l0_2 = some r) ∧ Asc (kq ≤ k) ∧ Asc (w'.heap[V1]? = some (.cells #[.int .i64 a0_0, .int .i64 a0_1, (.slice A0_2 l0_2.length c0_2)] 24 (0, 0))) ∧ Asc (Below w.heap.size w w'))
 case atStart => exact ⟨(0), fr, H', ⟨Nat.le_refl _⟩, ⟨gB Q0⟩, ⟨bh HB⟩⟩
 case round =>
  clear H'; obtain ⟨o0, rfl, HA, C2, Q0, HB⟩ := hrel
  cases gk with
  | zero => exact absurd HA.out (by simp [G9.l0])
  | succ k1 =>
   have H := HA.out; clear HA; simp only [G9.l0] at H
   by_cases c3 : o0 < (l0_2.length : Int)
   ·
    rw [if_pos c3] at H; have Y1 := dT c3; clear c3; revert H; refine gi (fun J2 H => ?_)
    by_cases c5 : ((Qab l0_2 o0).f1.f1) > 60
    ·
     rw [if_pos c5] at H; have X1 : decide (60 < ((Qab l0_2 o0).f1.f1)) = true := dT c5; clear c5; obtain rfl := Option.some.inj H; have _ := bx3 Q0; have U0 : 0 ≤ (o0 : Int) := dt; have V0 : o0 < (l0_2.length : Int) := dt; obtain ⟨U1, Q1, P1, O1, N1, L1, A0, P0, u0, E0, I0, n0, N0, C0, O0, M0, L0⟩ := Qao D1.out o0 U0 V0; cases L1; replace A0 := ce HB A0; replace P0 := ce HB P0; replace u0 := ce HB u0; replace E0 := ce HB E0; replace I0 := ce HB I0; replace n0 := ce HB n0; replace N0 := ce HB N0; have C1 := am_ O0; have Z0 := am_ C0; clear O0 C0; have Y0 := am_ L0; have X0 := am_ M0; clear L0 M0; replace U0 := eq_true U0; replace V0 := eq_true V0; go_wp2; go_ret; exact ⟨fe, bh HB⟩
    rw [if_neg c5] at H; have X1 : decide (60 < ((Qab l0_2 o0).f1.f1)) = false := dF c5; clear c5; have H' := am_ H; clear H; have _ := bx3 Q0; have U0 : 0 ≤ (o0 : Int) := dt; have V0 : o0 < (l0_2.length : Int) := dt; obtain ⟨U1, Q1, P1, O1, N1, L1, A0, P0, u0, E0, I0, n0, N0, C0, O0, M0, L0⟩ := Qao D1.out o0 U0 V0; cases L1; replace A0 := ce HB A0; replace P0 := ce HB P0; replace u0 := ce HB u0; replace E0 := ce HB E0; replace I0 := ce HB I0; replace n0 := ce HB n0; replace N0 := ce HB N0; have C1 := am_ O0; have Z0 := am_ C0; clear O0 C0; have Y0 := am_ L0; have X0 := am_ M0; clear L0 M0; replace U0 := eq_true U0; replace V0 := eq_true V0; go_wp2; go_roundg k1
    case measure => have := C2.out; omega
    case rel => exact ⟨(wrap64 (o0 + 1)), fr, H', kS C2, ⟨gB Q0⟩, ⟨bh HB⟩⟩
   rw [if_neg c3] at H; have Y1 := dF c3; clear c3; obtain rfl := Option.some.inj H; have _ := bx3 Q0; go_wp2; go_ret; exact ⟨fe, bh HB⟩

def Ft.l0 : Nat → List ByteArray → List ByteArray → Int → Option (Bool)
 | 0, _, _, _ => none
 | k + 1, x0, x1, x5 => if x5 < (x0.length : Int) then (if 0 ≤ x5 then (if x5 < (x1.length : Int) then (if (Qby ByteArray.empty x0 x5).toList = (Qby ByteArray.empty x1 x5).toList then (Ft.l0 k x0 x1 (wrap64 (x5 + 1))) else (some false)) else (none)) else (none)) else (some true)
def Ft.f (k : Nat) (l0 l1 : List ByteArray) : Option (Bool) := if (l0.length : Int) = (l1.length : Int) then (Ft.l0 k l0 l1 0) else (some false)
theorem Ft.calls (k : Nat) (A0 : Option Addr) (c0 : Nat) (l0 : List ByteArray) (A1 : Option Addr) (c1 : Nat) (l1 : List ByteArray) (r : Bool) (w : World) (O1 : Kd.C Kd.string w A0 l0.length l0) (N1 : l0.length ≤ c0) (L1 : Kd.C Kd.string w A1 l1.length l1) (D1 : l1.length ≤ c1) (h : Ft.f k l0 l1 = some r) :
  Calls Tryz.prog 58 #[.slice A0 l0.length c0, .slice A1 l1.length c1] w fun e w' => e = .returned (.bool r) ∧ Qae w w' := by
 have Q1 := am_ O1; have X1 := am_ N1; clear O1 N1; have P1 := am_ L1; have Y1 := am_ D1; clear L1 D1; have H := h; unfold Ft.f at H; clear h
 by_cases c3 : (l0.length : Int) = (l1.length : Int)
 ·
  rw [if_pos c3] at H; obtain ⟨V0, U0⟩ := et c3; have P0 : (l0.length == l1.length) = true := by first | simpa using c3 | (simp at c3 ⊢; omega)
  clear c3; have H' := am_ H; clear H; go_enter Tryz.func58, Tryz.ntmps58; go_wp2; repeat (go_quiet (fail); try go_wp2)
  go_loopg [5] k (fun kq v5 w' => ∃ (n0 : Int), v5 = .int .i64 n0 ∧ Asc (Ft.l0 kq l0 l1 n0 = some r) ∧ Asc (kq ≤ k) ∧ Qae w w')
  case atStart => exact ⟨(0), fr, H', ⟨Nat.le_refl _⟩, by repeat (first | exact Qae.refl _ | apply Qae.step)⟩
  case round =>
   clear H'; try clear V0 U0 P0
   obtain ⟨n0, rfl, HA, C1, ⟨m1, rfl⟩⟩ := hrel
   cases gk with
   | zero => exact absurd HA.out (by simp [Ft.l0])
   | succ k1 =>
    have H := HA.out; clear HA; simp only [Ft.l0] at H
    by_cases c4 : n0 < (l0.length : Int)
    ·
     rw [if_pos c4] at H; have X0 := dT c4; clear c4; revert H; refine gi (fun V1 H => ?_); revert H; refine gi (fun U1 H => ?_)
     by_cases c7 : (Qby ByteArray.empty l0 n0).toList = (Qby ByteArray.empty l1 n0).toList
     ·
      rw [if_pos c7] at H; obtain ⟨Z0, Y0⟩ := et c7; clear c7; have H' := am_ H; clear H; have o0 : 0 ≤ (n0 : Int) := dt; have E0 : n0 < (l0.length : Int) := dt; obtain ⟨Q0, N0, I0⟩ := Kd.at_string Q1.out n0 o0 E0; cases N0; replace o0 := eq_true o0; replace E0 := eq_true E0; have C0 : 0 ≤ (n0 : Int) := dt; have u0 : n0 < (l1.length : Int) := dt; obtain ⟨O0, M0, L0⟩ := Kd.at_string P1.out n0 C0 u0; cases M0; replace C0 := eq_true C0; replace u0 := eq_true u0; go_wp2; repeat (go_quiet (fail); try go_wp2)
      go_roundg k1
      case measure => have := C1.out; omega
      case rel => exact ⟨(wrap64 (n0 + 1)), fr, H', kS C1, by repeat (first | exact Qae.refl _ | apply Qae.step)⟩
     rw [if_neg c7] at H; obtain ⟨Z0, Y0⟩ := ef c7; obtain rfl := Option.some.inj H; have o0 : 0 ≤ (n0 : Int) := dt; have E0 : n0 < (l0.length : Int) := dt; obtain ⟨Q0, N0, I0⟩ := Kd.at_string Q1.out n0 o0 E0; cases N0; replace o0 := eq_true o0; replace E0 := eq_true E0; have C0 : 0 ≤ (n0 : Int) := dt; have u0 : n0 < (l1.length : Int) := dt; obtain ⟨O0, M0, L0⟩ := Kd.at_string P1.out n0 C0 u0; cases M0; replace C0 := eq_true C0; replace u0 := eq_true u0; go_wp2; repeat (go_quiet (fail); try go_wp2)
     go_ret; exact ⟨fr, by repeat (first | exact Qae.refl _ | apply Qae.step)⟩
    rw [if_neg c4] at H; have X0 := dF c4; clear c4; obtain rfl := Option.some.inj H; go_wp2; repeat (go_quiet (fail); try go_wp2)
    go_ret; exact ⟨fr, by repeat (first | exact Qae.refl _ | apply Qae.step)⟩
 rw [if_neg c3] at H; obtain ⟨V0, U0⟩ := ef c3; have P0 : (l0.length == l1.length) = false := by first | simpa using c3 | (simp at c3 ⊢; omega)
 obtain rfl := Option.some.inj H; go_enter Tryz.func58, Tryz.ntmps58; go_wp2; repeat (go_quiet (fail); try go_wp2)
 go_ret; exact ⟨fr, by repeat (first | exact Qae.refl _ | apply Qae.step)⟩

def Gu.f (k : Nat) (a0_0 a0_1 : Int) (l0_2 : List ByteArray) (o0 n0 : Int) (u0 : List ByteArray) : Option (Bool) := (Ft.f k l0_2 u0).bind fun A0 => (if A0 = true then (if a0_0 = o0 then (some (a0_1 == n0)) else (some false)) else (some false))
theorem Gu.calls (k : Nat) (a0_0 a0_1 : Int) (A0_2 : Option Addr) (c0_2 : Nat) (l0_2 : List ByteArray) (P0 X0 : Int) (E0 : Option Addr) (M0 : Nat) (u0 : List ByteArray) (r : Bool) (w : World) (hr0_2 : Kd.C Kd.string w A0_2 l0_2.length l0_2) (hc0_2 : l0_2.length ≤ c0_2) (N1 : Kd.C Kd.string w E0 u0.length u0) (Z0 : u0.length ≤ M0) (h : Gu.f k a0_0 a0_1 l0_2 P0 X0 u0 = some r) :
  Calls Tryz.prog 81 #[.agg #[.int .i64 a0_0, .int .i64 a0_1, .slice A0_2 l0_2.length c0_2], .agg #[.int .i64 P0, .int .i64 X0, .slice E0 u0.length M0]] w fun e w' => e = .returned (.bool r) ∧ Below w.heap.size w w' := by
 have U1 := Tryz.underlying107; have V0 := am_ hr0_2; have Q0 := am_ hc0_2; clear hr0_2 hc0_2; have U0 := am_ N1; have Y0 := am_ Z0; clear N1 Z0; have HB := am_ (Below.refl w.heap.size w); have H := h; unfold Gu.f at H; clear h; replace H := bi H; obtain ⟨V1, A3, H⟩ := H; try dsimp only at H
 replace H := ib H; obtain ⟨rfl, H⟩ | ⟨rfl, H⟩ := H
 ·
  by_cases c5 : a0_0 = P0
  ·
   rw [if_pos c5] at H; obtain ⟨P1, Q1⟩ := et c5; clear c5; obtain rfl := Option.some.inj H; go_enter Tryz.func81, Tryz.ntmps81
   go_wp2_with (first | (refine bf_ 2 #[.int .i64 a0_0, .int .i64 a0_1, .slice A0_2 l0_2.length c0_2] 107 HB ?_; intro O1 hg w6 hb n0 C1 HB; clear hb hg) | (refine bf_ 3 #[.int .i64 P0, .int .i64 X0, .slice E0 u0.length M0] 107 HB ?_; intro D1 hg w7 hb I0 L1 HB; obtain ⟨o0, A0⟩ := tN n0 hg; replace n0 := tBb n0 hb; clear hb hg; have _ := n2 o0; have _ := bx3 n0; have _ := bx3 I0) | (refine gl_ (some 10) Tryz.func58 #[.slice A0_2 l0_2.length c0_2, .slice E0 u0.length M0] ?_; (with_reducible refine (Ft.calls k _ _ l0_2 _ _ u0 true _ ?O0 ?C0 ?N0 ?L0 A3.out).mono ?_); (case O0 => exact gCB V0 HB); (case C0 => exact Q0.out); (case N0 => exact gCB U0 HB); (case L0 => exact Y0.out); rintro e w' ⟨rfl, ⟨nd, rfl⟩⟩; refine ⟨_, rfl, ?_⟩))
   go_ret; exact ⟨fe, bh HB⟩
  rw [if_neg c5] at H; obtain ⟨P1, Q1⟩ := ef c5; obtain rfl := Option.some.inj H; go_enter Tryz.func81, Tryz.ntmps81
  go_wp2_with (first | (refine bf_ 2 #[.int .i64 a0_0, .int .i64 a0_1, .slice A0_2 l0_2.length c0_2] 107 HB ?_; intro O1 hg Z1 hb n0 C1 HB; clear hb hg) | (refine bf_ 3 #[.int .i64 P0, .int .i64 X0, .slice E0 u0.length M0] 107 HB ?_; intro D1 hg X1 hb I0 L1 HB; obtain ⟨o0, A0⟩ := tN n0 hg; replace n0 := tBb n0 hb; clear hb hg; have _ := n2 o0; have _ := bx3 n0; have _ := bx3 I0) | (refine gl_ (some 10) Tryz.func58 #[.slice A0_2 l0_2.length c0_2, .slice E0 u0.length M0] ?_; (with_reducible refine (Ft.calls k _ _ l0_2 _ _ u0 true _ ?O0 ?C0 ?N0 ?L0 A3.out).mono ?_); (case O0 => exact gCB V0 HB); (case C0 => exact Q0.out); (case N0 => exact gCB U0 HB); (case L0 => exact Y0.out); rintro e w' ⟨rfl, ⟨nd, rfl⟩⟩; refine ⟨_, rfl, ?_⟩))
  go_ret; exact ⟨fe, bh HB⟩
 obtain rfl := Option.some.inj H; go_enter Tryz.func81, Tryz.ntmps81
 go_wp2_with (first | (refine bf_ 2 #[.int .i64 a0_0, .int .i64 a0_1, .slice A0_2 l0_2.length c0_2] 107 HB ?_; intro O1 hg w16 hb n0 C1 HB; clear hb hg) | (refine bf_ 3 #[.int .i64 P0, .int .i64 X0, .slice E0 u0.length M0] 107 HB ?_; intro D1 hg Y1 hb I0 L1 HB; obtain ⟨o0, A0⟩ := tN n0 hg; replace n0 := tBb n0 hb; clear hb hg; have _ := n2 o0; have _ := bx3 n0; have _ := bx3 I0) | (refine gl_ (some 10) Tryz.func58 #[.slice A0_2 l0_2.length c0_2, .slice E0 u0.length M0] ?_; (with_reducible refine (Ft.calls k _ _ l0_2 _ _ u0 false _ ?O0 ?C0 ?N0 ?L0 A3.out).mono ?_); (case O0 => exact gCB V0 HB); (case C0 => exact Q0.out); (case N0 => exact gCB U0 HB); (case L0 => exact Y0.out); rintro e w' ⟨rfl, ⟨nd, rfl⟩⟩; refine ⟨_, rfl, ?_⟩))
 go_ret; exact ⟨fe, bh HB⟩

def Fm.l0 : Nat → List (Qaz) → List (Qaz) → Int → Option (Bool)
 | 0, _, _, _ => none
 | k + 1, x0, x1, x5 => if x5 < (x0.length : Int) then (if 0 ≤ x5 then (if x5 < (x1.length : Int) then ((Gu.f k ((Qaq x0 x5).f0) ((Qaq x0 x5).f1) ((Qaq x0 x5).f2) ((Qaq x1 x5).f0) ((Qaq x1 x5).f1) ((Qaq x1 x5).f2)).bind fun n0 => (if n0 = true then (Fm.l0 k x0 x1 (wrap64 (x5 + 1))) else (some false))) else (none)) else (none)) else (some true)
def Fm.f (k : Nat) (l0 l1 : List (Qaz)) : Option (Bool) := if (l0.length : Int) = (l1.length : Int) then (Fm.l0 k l0 l1 0) else (some false)
def Fm.T6 : Bool × List (List Nat × List Nat) := (true, [([], []), ([], []), ([0, 1], [0, 1]), ([2], [2]), ([], []), ([], []), ([4, 5], [4, 5]), ([6], [6]), ([3, 7], [3, 7]), ([8, 8, 0, 1, 2, 3, 4, 5, 6, 7, 8], [8])])
def Fm.B6 : List Nat := [0, 0, 3, 7, 0, 0, 48, 112, 255, 511]
theorem Fm.tab6 : Qcp .any (opsOf Tryz.f59 6) = Fm.T6 := by kernel_rfl
theorem Fm.bits6 : Qbi Fm.T6.2 Fm.B6 = true := by kernel_rfl
theorem Fm.calls (k : Nat) (A0 : Option Addr) (c0 : Nat) (l0 : List (Qaz)) (A1 : Option Addr) (c1 : Nat) (l1 : List (Qaz)) (r : Bool) (w : World) (L3 : Kd.C Qbm w A0 l0.length l0) (J3 : l0.length ≤ c0) (I3 : Kd.C Qbm w A1 l1.length l1) (C3 : l1.length ≤ c1) (h : Fm.f k l0 l1 = some r) :
  Calls Tryz.prog 59 #[.slice A0 l0.length c0, .slice A1 l1.length c1] w fun e w' => e = .returned (.bool r) ∧ Below w.heap.size w w' := by
 have D3 := Tryz.underlying107; have Q3 := am_ L3; have Y3 := am_ J3; clear L3 J3; have N3 := am_ I3; have Z3 := am_ C3; clear I3 C3; have HB := am_ (Below.refl w.heap.size w); have H := h; unfold Fm.f at H; clear h
 by_cases c3 : (l0.length : Int) = (l1.length : Int)
 ·
  rw [if_pos c3] at H; obtain ⟨k3, Z2⟩ := et c3; have V2 : (l0.length == l1.length) = true := by first | simpa using c3 | (simp at c3 ⊢; omega)
  clear c3; have H' := am_ H; clear H; go_enter Tryz.func59, Tryz.ntmps59; go_wp2
  go_loopg [5] k (fun kq v5 w' => ∃ (n0 : Int), v5 = .int .i64 n0 ∧ Asc (Fm.l0 kq l0 l1 n0 = some r) ∧ Asc (kq ≤ k) ∧ Asc (Below w.heap.size w w'))
  case atStart => exact ⟨(0), fr, H', ⟨Nat.le_refl _⟩, ⟨bh HB⟩⟩
  case round =>
   clear H'; try clear k3 Z2 V2
   obtain ⟨n0, rfl, HA, u3, HB⟩ := hrel
   cases gk with
   | zero => exact absurd HA.out (by simp [Fm.l0])
   | succ k1 =>
    have H := HA.out; clear HA; simp only [Fm.l0] at H
    by_cases c4 : n0 < (l0.length : Int)
    ·
     rw [if_pos c4] at H; have s3 := dT c4; clear c4; revert H; refine gi (fun U3 H => ?_); revert H; refine gi (fun S3 H => ?_); replace H := bi H; obtain ⟨V3, A7, H⟩ := H; try dsimp only at H
     replace H := ib H; obtain ⟨rfl, H⟩ | ⟨rfl, H⟩ := H
     ·
      have H' := am_ H; clear H; try go_wp2
      replace HB := am_ (Qaj HB.out); have V1 : 0 ≤ (n0 : Int) := dt; have Q1 : n0 < (l0.length : Int) := dt; obtain ⟨Y2, Y1, O1, N2, o0, C0, I0, M0, Q0⟩ := Qha Q3.out n0 V1 Q1; have O0 := I0; have C1 := C0; have U0 := o0; cases N2; replace o0 := ce HB o0; replace C0 := ce HB C0; replace I0 := ce HB I0; have Y0 := am_ Q0; have N1 := am_ M0; clear Q0 M0; replace V1 := eq_true V1; replace Q1 := eq_true Q1; have U1 : 0 ≤ (n0 : Int) := dt; have Z1 : n0 < (l1.length : Int) := dt; obtain ⟨m3, X1, P1, Q2, E0, u0, L0, Z0, V0⟩ := Qha N3.out n0 U1 Z1; have P0 := L0; have X0 := u0; have D1 := E0; cases Q2; replace E0 := ce HB E0; replace u0 := ce HB u0; replace L0 := ce HB L0; have N0 := am_ V0; have L1 := am_ Z0; clear V0 Z0; replace U1 := eq_true U1; replace Z1 := eq_true Z1; refine st_ 10 [] (cd_ (ce HB (by first | exact U0)) (cd_ (ce HB (by first | exact C1)) (cd_ (ce HB (by first | exact O0)) (cd_ (ce HB (by first | exact D1)) (cd_ (ce HB (by first | exact X0)) (cd_ (ce HB (by first | exact P0)) ct)))))) (fun hHeld => ?_); refine Qav Fm.tab6 Fm.bits6 (fun HT_ HW_ => ?_); generalize wr.drew = w9 at HB Y0 N0 o0 C0 I0 E0 u0 L0 hHeld ⊢; refine pu_ 0 (some 18) 1 HT_ (h := ?_); refine pu_ 1 (some 19) 3 HT_ (h := ?_); refine pu_ 2 (some 20) 7 HT_ (h := ?_); refine pu_ 4 (some 22) 23 HT_ (h := ?_); refine pu_ 5 (some 23) 55 HT_ (h := ?_); refine pu_ 6 (some 24) 119 HT_ (h := ?_); refine tk_ 3 (some 21) 127 HT_ HW_ hHeld (h := ?_); refine tk_ 7 (some 25) 255 HT_ HW_ hHeld (h := ?_); refine on_ 8 (some 26) 511 HT_ (fun K hK => ?_); refine Qdo Tryz.func81 #[.agg #[.int .i64 ((Qaq l0 n0).f0), .int .i64 ((Qaq l0 n0).f1), .slice Y1 ((Qaq l0 n0).f2).length O1], .agg #[.int .i64 ((Qaq l1 n0).f0), .int .i64 ((Qaq l1 n0).f1), .slice X1 ((Qaq l1 n0).f2).length P1]] ?_
      with_reducible refine (Gu.calls k1 ((Qaq l0 n0).f0) ((Qaq l0 n0).f1) _ _ ((Qaq l0 n0).f2) ((Qaq l1 n0).f0) ((Qaq l1 n0).f1) _ _ ((Qaq l1 n0).f2) true _ ?L2 ?C2 ?J2 ?D2 A7.out).mono ?_
      (case L2 => exact gCB Y0 HB)
      (case C2 => exact N1.out)
      (case J2 => exact gCB N0 HB)
      (case D2 => exact L1.out)
      rintro e s4 ⟨rfl, hb⟩; refine ⟨_, rfl, ?_⟩; replace HB := tHb HB hb
      (try clear hb)
      (try clear X3)
      (try clear hk)
      (try clear hi)
      refine hK.out _ _ (m0_ (ce HB (by first | exact U0)) (m0_ (ce HB (by first | exact C1)) (m0_ (ce HB (by first | exact O0)) (m0_ (ce HB (by first | exact D1)) (m0_ (ce HB (by first | exact X0)) (m0_ (ce HB (by first | exact P0)) ct)))))) (fun hHeld => ?_); clear hK K; refine Qbb (a' := ?_) ?_ ?_; rotate_left
      ·
       show Act.put _ (some 26) _ = _; exact pt_
      refine pu_ 9 (some 6) 1023 HT_ (h := ?_); refine Qbt (Qbc HT_.out (by kernel_rfl)) ?_; try go_wp2
      go_roundg k1
      case measure => have := u3.out; omega
      case rel => exact ⟨(wrap64 (n0 + 1)), fr, H', kS u3, ⟨bh HB⟩⟩
     obtain rfl := Option.some.inj H; try go_wp2
     replace HB := am_ (Qaj HB.out); have V1 : 0 ≤ (n0 : Int) := dt; have Q1 : n0 < (l0.length : Int) := dt; obtain ⟨Y2, Y1, O1, N2, o0, C0, I0, M0, Q0⟩ := Qha Q3.out n0 V1 Q1; have O0 := I0; have C1 := C0; have U0 := o0; cases N2; replace o0 := ce HB o0; replace C0 := ce HB C0; replace I0 := ce HB I0; have Y0 := am_ Q0; have N1 := am_ M0; clear Q0 M0; replace V1 := eq_true V1; replace Q1 := eq_true Q1; have U1 : 0 ≤ (n0 : Int) := dt; have Z1 : n0 < (l1.length : Int) := dt; obtain ⟨m3, X1, P1, Q2, E0, u0, L0, Z0, V0⟩ := Qha N3.out n0 U1 Z1; have P0 := L0; have X0 := u0; have D1 := E0; cases Q2; replace E0 := ce HB E0; replace u0 := ce HB u0; replace L0 := ce HB L0; have N0 := am_ V0; have L1 := am_ Z0; clear V0 Z0; replace U1 := eq_true U1; replace Z1 := eq_true Z1; refine st_ 10 [] (cd_ (ce HB (by first | exact U0)) (cd_ (ce HB (by first | exact C1)) (cd_ (ce HB (by first | exact O0)) (cd_ (ce HB (by first | exact D1)) (cd_ (ce HB (by first | exact X0)) (cd_ (ce HB (by first | exact P0)) ct)))))) (fun hHeld => ?_); refine Qav Fm.tab6 Fm.bits6 (fun HT_ HW_ => ?_); generalize wr.drew = m4 at HB Y0 N0 o0 C0 I0 E0 u0 L0 hHeld ⊢; refine pu_ 0 (some 18) 1 HT_ (h := ?_); refine pu_ 1 (some 19) 3 HT_ (h := ?_); refine pu_ 2 (some 20) 7 HT_ (h := ?_); refine pu_ 4 (some 22) 23 HT_ (h := ?_); refine pu_ 5 (some 23) 55 HT_ (h := ?_); refine pu_ 6 (some 24) 119 HT_ (h := ?_); refine tk_ 3 (some 21) 127 HT_ HW_ hHeld (h := ?_); refine tk_ 7 (some 25) 255 HT_ HW_ hHeld (h := ?_); refine on_ 8 (some 26) 511 HT_ (fun K hK => ?_); refine Qdo Tryz.func81 #[.agg #[.int .i64 ((Qaq l0 n0).f0), .int .i64 ((Qaq l0 n0).f1), .slice Y1 ((Qaq l0 n0).f2).length O1], .agg #[.int .i64 ((Qaq l1 n0).f0), .int .i64 ((Qaq l1 n0).f1), .slice X1 ((Qaq l1 n0).f2).length P1]] ?_
     with_reducible refine (Gu.calls k1 ((Qaq l0 n0).f0) ((Qaq l0 n0).f1) _ _ ((Qaq l0 n0).f2) ((Qaq l1 n0).f0) ((Qaq l1 n0).f1) _ _ ((Qaq l1 n0).f2) false _ ?L2 ?C2 ?J2 ?D2 A7.out).mono ?_
     (case L2 => exact gCB Y0 HB)
     (case C2 => exact N1.out)
     (case J2 => exact gCB N0 HB)
     (case D2 => exact L1.out)
     rintro e k4 ⟨rfl, hb⟩; refine ⟨_, rfl, ?_⟩; replace HB := tHb HB hb
     (try clear hb)
     (try clear X3)
     (try clear hk)
     (try clear hi)
     refine hK.out _ _ (m0_ (ce HB (by first | exact U0)) (m0_ (ce HB (by first | exact C1)) (m0_ (ce HB (by first | exact O0)) (m0_ (ce HB (by first | exact D1)) (m0_ (ce HB (by first | exact X0)) (m0_ (ce HB (by first | exact P0)) ct)))))) (fun hHeld => ?_); clear hK K; refine Qbb (a' := ?_) ?_ ?_; rotate_left
     ·
      show Act.put _ (some 26) _ = _; exact pt_
     refine pu_ 9 (some 6) 1023 HT_ (h := ?_); refine Qbt (Qbc HT_.out (by kernel_rfl)) ?_; try go_wp2
     go_ret; exact ⟨fe, bh HB⟩
    rw [if_neg c4] at H; have s3 := dF c4; clear c4; obtain rfl := Option.some.inj H; go_wp2; go_ret; exact ⟨fe, bh HB⟩
 rw [if_neg c3] at H; obtain ⟨k3, Z2⟩ := ef c3; have V2 : (l0.length == l1.length) = false := by first | simpa using c3 | (simp at c3 ⊢; omega)
 obtain rfl := Option.some.inj H; go_enter Tryz.func59, Tryz.ntmps59; go_wp2; go_ret; exact ⟨fe, bh HB⟩
section
attribute [local go_sem high] eqA28
def Gn.f (k : Nat) (a0_0 a0_1 : Int) (l0_2 : List (Qaz)) (N0 : List ByteArray) (I0 O0 : Int) (n0 M0 : Int) (E0 : List (Qaz)) (L0 : List ByteArray) (o0 u0 : Int) : Option (Bool) := (Ft.f k N0 L0).bind fun A0 => ((Fm.f k l0_2 E0).bind fun C0 => (if A0 = true then (if C0 = true then (if a0_0 = n0 then (if a0_1 = M0 then (some (I0 == o0 && (O0 == u0))) else (some false)) else (some false)) else (some false)) else (some false)))
theorem Gn.calls (k : Nat) (a0_0 a0_1 : Int) (A0_2 : Option Addr) (c0_2 : Nat) (l0_2 : List (Qaz)) (Y0 : Option Addr) (U0 : Nat) (N0 : List ByteArray) (C2 Y1 : Int) (O1 Q1 : Int) (Q0 : Option Addr) (X0 : Nat) (L0 : List (Qaz)) (V0 : Option Addr) (P0 : Nat) (M0 : List ByteArray) (Z1 X1 : Int) (r : Bool) (w : World) (hr0_2 : Kd.C Qbm w A0_2 l0_2.length l0_2) (hc0_2 : l0_2.length ≤ c0_2) (Y2 : Kd.C Kd.string w Y0 N0.length N0) (Z2 : N0.length ≤ U0) (m3 : Kd.C Qbm w Q0 L0.length L0) (Q2 : L0.length ≤ X0) (k3 : Kd.C Kd.string w V0 M0.length M0) (V2 : M0.length ≤ P0) (h : Gn.f k a0_0 a0_1 l0_2 N0 C2 Y1 O1 Q1 L0 M0 Z1 X1 = some r) :
  Calls Tryz.prog 33 #[.agg #[.int .i64 a0_0, .int .i64 a0_1, .slice A0_2 l0_2.length c0_2, .slice Y0 N0.length U0, .int .i64 C2, .int .i64 Y1], .agg #[.int .i64 O1, .int .i64 Q1, .slice Q0 L0.length X0, .slice V0 M0.length P0, .int .i64 Z1, .int .i64 X1]] w fun e w' => e = .returned (.bool r) ∧ Below w.heap.size w w' := by
 have L3 := Tryz.underlying30; have N3 := Tryz.underlying28; have P1 := am_ hr0_2; have Z0 := am_ hc0_2; clear hr0_2 hc0_2; have N1 := am_ Y2; have C1 := am_ Z2; clear Y2 Z2; have D1 := am_ m3; have U1 := am_ Q2; clear m3 Q2; have L1 := am_ k3; have V1 := am_ V2; clear k3 V2; have HB := am_ (Below.refl w.heap.size w); have H := h; unfold Gn.f at H; clear h; replace H := bi H; obtain ⟨J3, A3, H⟩ := H; try dsimp only at H
 replace H := bi H; obtain ⟨s3, A4, H⟩ := H; try dsimp only at H
 replace H := ib H; obtain ⟨rfl, H⟩ | ⟨rfl, H⟩ := H
 ·
  replace H := ib H; obtain ⟨rfl, H⟩ | ⟨rfl, H⟩ := H
  ·
   by_cases c7 : a0_0 = O1
   ·
    rw [if_pos c7] at H; obtain ⟨C3, u3⟩ := et c7; clear c7
    by_cases c8 : a0_1 = Q1
    ·
     rw [if_pos c8] at H; obtain ⟨I3, D3⟩ := et c8; clear c8; obtain rfl := Option.some.inj H; go_enter Tryz.func33, Tryz.ntmps33
     go_wp2_with (first | (refine bf_ 2 #[.int .i64 a0_0, .int .i64 a0_1, .slice A0_2 l0_2.length c0_2, .slice Y0 N0.length U0, .int .i64 C2, .int .i64 Y1] 30 HB ?_; intro L2 hg w9 hb n0 D2 HB; clear hb hg) | (refine bf_ 3 #[.int .i64 O1, .int .i64 Q1, .slice Q0 L0.length X0, .slice V0 M0.length P0, .int .i64 Z1, .int .i64 X1] 30 HB ?_; intro N2 hg D4 hb u0 J2 HB; obtain ⟨o0, O0⟩ := tN n0 hg; replace n0 := tBb n0 hb; clear hb hg; have _ := n2 o0; have _ := bx6 n0; have _ := bx6 u0) | (refine gl_ (some 11) Tryz.func58 #[.slice Y0 N0.length U0, .slice V0 M0.length P0] ?_; (with_reducible refine (Ft.calls k _ _ N0 _ _ M0 true _ ?I0 ?A0 ?E0 ?C0 A3.out).mono ?_); (case I0 => exact gCB N1 HB); (case A0 => exact C1.out); (case E0 => exact gCB L1 HB); (case C0 => exact V1.out); rintro e w' ⟨rfl, ⟨nd, rfl⟩⟩; refine ⟨_, rfl, ?_⟩) | (refine gl_ (some 16) Tryz.func59 #[.slice A0_2 l0_2.length c0_2, .slice Q0 L0.length X0] ?_; (with_reducible refine (Fm.calls k _ _ l0_2 _ _ L0 true _ ?I0 ?A0 ?E0 ?C0 A4.out).mono ?_); (case I0 => repeat (first | exact (Kd.C_below P1.out (bh HB)) | (with_reducible refine Kd.C_alloc ?_ _) | (with_reducible refine Kd.C_drewN ?_ _) | (with_reducible refine Kd.C_drew ?_))); (case A0 => exact Z0.out); (case E0 => repeat (first | exact (Kd.C_below D1.out (bh HB)) | (with_reducible refine Kd.C_alloc ?_ _) | (with_reducible refine Kd.C_drewN ?_ _) | (with_reducible refine Kd.C_drew ?_))); (case C0 => exact U1.out); rintro e s4 ⟨rfl, hb⟩; refine ⟨_, rfl, ?_⟩; replace n0 := tBb n0 hb; replace u0 := tBb u0 hb; replace HB := tHb HB hb; (try clear hb); have _ := bx6 n0; have _ := bx6 u0))
     go_ret; exact ⟨fe, bh HB⟩
    rw [if_neg c8] at H; obtain ⟨I3, D3⟩ := ef c8; obtain rfl := Option.some.inj H; go_enter Tryz.func33, Tryz.ntmps33
    go_wp2_with (first | (refine bf_ 2 #[.int .i64 a0_0, .int .i64 a0_1, .slice A0_2 l0_2.length c0_2, .slice Y0 N0.length U0, .int .i64 C2, .int .i64 Y1] 30 HB ?_; intro L2 hg u4 hb n0 D2 HB; clear hb hg) | (refine bf_ 3 #[.int .i64 O1, .int .i64 Q1, .slice Q0 L0.length X0, .slice V0 M0.length P0, .int .i64 Z1, .int .i64 X1] 30 HB ?_; intro N2 hg Q3 hb u0 J2 HB; obtain ⟨o0, O0⟩ := tN n0 hg; replace n0 := tBb n0 hb; clear hb hg; have _ := n2 o0; have _ := bx6 n0; have _ := bx6 u0) | (refine gl_ (some 11) Tryz.func58 #[.slice Y0 N0.length U0, .slice V0 M0.length P0] ?_; (with_reducible refine (Ft.calls k _ _ N0 _ _ M0 true _ ?I0 ?A0 ?E0 ?C0 A3.out).mono ?_); (case I0 => exact gCB N1 HB); (case A0 => exact C1.out); (case E0 => exact gCB L1 HB); (case C0 => exact V1.out); rintro e w' ⟨rfl, ⟨nd, rfl⟩⟩; refine ⟨_, rfl, ?_⟩) | (refine gl_ (some 16) Tryz.func59 #[.slice A0_2 l0_2.length c0_2, .slice Q0 L0.length X0] ?_; (with_reducible refine (Fm.calls k _ _ l0_2 _ _ L0 true _ ?I0 ?A0 ?E0 ?C0 A4.out).mono ?_); (case I0 => repeat (first | exact (Kd.C_below P1.out (bh HB)) | (with_reducible refine Kd.C_alloc ?_ _) | (with_reducible refine Kd.C_drewN ?_ _) | (with_reducible refine Kd.C_drew ?_))); (case A0 => exact Z0.out); (case E0 => repeat (first | exact (Kd.C_below D1.out (bh HB)) | (with_reducible refine Kd.C_alloc ?_ _) | (with_reducible refine Kd.C_drewN ?_ _) | (with_reducible refine Kd.C_drew ?_))); (case C0 => exact U1.out); rintro e E4 ⟨rfl, hb⟩; refine ⟨_, rfl, ?_⟩; replace n0 := tBb n0 hb; replace u0 := tBb u0 hb; replace HB := tHb HB hb; (try clear hb); have _ := bx6 n0; have _ := bx6 u0))
    go_ret; exact ⟨fe, bh HB⟩
   rw [if_neg c7] at H; obtain ⟨C3, u3⟩ := ef c7; obtain rfl := Option.some.inj H; go_enter Tryz.func33, Tryz.ntmps33
   go_wp2_with (first | (refine bf_ 2 #[.int .i64 a0_0, .int .i64 a0_1, .slice A0_2 l0_2.length c0_2, .slice Y0 N0.length U0, .int .i64 C2, .int .i64 Y1] 30 HB ?_; intro L2 hg Y3 hb n0 D2 HB; clear hb hg) | (refine bf_ 3 #[.int .i64 O1, .int .i64 Q1, .slice Q0 L0.length X0, .slice V0 M0.length P0, .int .i64 Z1, .int .i64 X1] 30 HB ?_; intro N2 hg C4 hb u0 J2 HB; obtain ⟨o0, O0⟩ := tN n0 hg; replace n0 := tBb n0 hb; clear hb hg; have _ := n2 o0; have _ := bx6 n0; have _ := bx6 u0) | (refine gl_ (some 11) Tryz.func58 #[.slice Y0 N0.length U0, .slice V0 M0.length P0] ?_; (with_reducible refine (Ft.calls k _ _ N0 _ _ M0 true _ ?I0 ?A0 ?E0 ?C0 A3.out).mono ?_); (case I0 => exact gCB N1 HB); (case A0 => exact C1.out); (case E0 => exact gCB L1 HB); (case C0 => exact V1.out); rintro e w' ⟨rfl, ⟨nd, rfl⟩⟩; refine ⟨_, rfl, ?_⟩) | (refine gl_ (some 16) Tryz.func59 #[.slice A0_2 l0_2.length c0_2, .slice Q0 L0.length X0] ?_; (with_reducible refine (Fm.calls k _ _ l0_2 _ _ L0 true _ ?I0 ?A0 ?E0 ?C0 A4.out).mono ?_); (case I0 => repeat (first | exact (Kd.C_below P1.out (bh HB)) | (with_reducible refine Kd.C_alloc ?_ _) | (with_reducible refine Kd.C_drewN ?_ _) | (with_reducible refine Kd.C_drew ?_))); (case A0 => exact Z0.out); (case E0 => repeat (first | exact (Kd.C_below D1.out (bh HB)) | (with_reducible refine Kd.C_alloc ?_ _) | (with_reducible refine Kd.C_drewN ?_ _) | (with_reducible refine Kd.C_drew ?_))); (case C0 => exact U1.out); rintro e k4 ⟨rfl, hb⟩; refine ⟨_, rfl, ?_⟩; replace n0 := tBb n0 hb; replace u0 := tBb u0 hb; replace HB := tHb HB hb; (try clear hb); have _ := bx6 n0; have _ := bx6 u0))
   go_ret; exact ⟨fe, bh HB⟩
  obtain rfl := Option.some.inj H; go_enter Tryz.func33, Tryz.ntmps33
  go_wp2_with (first | (refine bf_ 2 #[.int .i64 a0_0, .int .i64 a0_1, .slice A0_2 l0_2.length c0_2, .slice Y0 N0.length U0, .int .i64 C2, .int .i64 Y1] 30 HB ?_; intro L2 hg X3 hb n0 D2 HB; clear hb hg) | (refine bf_ 3 #[.int .i64 O1, .int .i64 Q1, .slice Q0 L0.length X0, .slice V0 M0.length P0, .int .i64 Z1, .int .i64 X1] 30 HB ?_; intro N2 hg V3 hb u0 J2 HB; obtain ⟨o0, O0⟩ := tN n0 hg; replace n0 := tBb n0 hb; clear hb hg; have _ := n2 o0; have _ := bx6 n0; have _ := bx6 u0) | (refine gl_ (some 11) Tryz.func58 #[.slice Y0 N0.length U0, .slice V0 M0.length P0] ?_; (with_reducible refine (Ft.calls k _ _ N0 _ _ M0 true _ ?I0 ?A0 ?E0 ?C0 A3.out).mono ?_); (case I0 => exact gCB N1 HB); (case A0 => exact C1.out); (case E0 => exact gCB L1 HB); (case C0 => exact V1.out); rintro e w' ⟨rfl, ⟨nd, rfl⟩⟩; refine ⟨_, rfl, ?_⟩) | (refine gl_ (some 16) Tryz.func59 #[.slice A0_2 l0_2.length c0_2, .slice Q0 L0.length X0] ?_; (with_reducible refine (Fm.calls k _ _ l0_2 _ _ L0 false _ ?I0 ?A0 ?E0 ?C0 A4.out).mono ?_); (case I0 => repeat (first | exact (Kd.C_below P1.out (bh HB)) | (with_reducible refine Kd.C_alloc ?_ _) | (with_reducible refine Kd.C_drewN ?_ _) | (with_reducible refine Kd.C_drew ?_))); (case A0 => exact Z0.out); (case E0 => repeat (first | exact (Kd.C_below D1.out (bh HB)) | (with_reducible refine Kd.C_alloc ?_ _) | (with_reducible refine Kd.C_drewN ?_ _) | (with_reducible refine Kd.C_drew ?_))); (case C0 => exact U1.out); rintro e m4 ⟨rfl, hb⟩; refine ⟨_, rfl, ?_⟩; replace n0 := tBb n0 hb; replace u0 := tBb u0 hb; replace HB := tHb HB hb; (try clear hb)))
  go_ret; exact ⟨fe, bh HB⟩
 obtain rfl := Option.some.inj H; go_enter Tryz.func33, Tryz.ntmps33
 go_wp2_with (first | (refine bf_ 2 #[.int .i64 a0_0, .int .i64 a0_1, .slice A0_2 l0_2.length c0_2, .slice Y0 N0.length U0, .int .i64 C2, .int .i64 Y1] 30 HB ?_; intro L2 hg S3 hb n0 D2 HB; clear hb hg) | (refine bf_ 3 #[.int .i64 O1, .int .i64 Q1, .slice Q0 L0.length X0, .slice V0 M0.length P0, .int .i64 Z1, .int .i64 X1] 30 HB ?_; intro N2 hg Z3 hb u0 J2 HB; obtain ⟨o0, O0⟩ := tN n0 hg; replace n0 := tBb n0 hb; clear hb hg; have _ := n2 o0; have _ := bx6 n0; have _ := bx6 u0) | (refine gl_ (some 11) Tryz.func58 #[.slice Y0 N0.length U0, .slice V0 M0.length P0] ?_; (with_reducible refine (Ft.calls k _ _ N0 _ _ M0 false _ ?I0 ?A0 ?E0 ?C0 A3.out).mono ?_); (case I0 => exact gCB N1 HB); (case A0 => exact C1.out); (case E0 => exact gCB L1 HB); (case C0 => exact V1.out); rintro e w' ⟨rfl, ⟨nd, rfl⟩⟩; refine ⟨_, rfl, ?_⟩) | (refine gl_ (some 16) Tryz.func59 #[.slice A0_2 l0_2.length c0_2, .slice Q0 L0.length X0] ?_; (with_reducible refine (Fm.calls k _ _ l0_2 _ _ L0 s3 _ ?I0 ?A0 ?E0 ?C0 A4.out).mono ?_); (case I0 => repeat (first | exact (Kd.C_below P1.out (bh HB)) | (with_reducible refine Kd.C_alloc ?_ _) | (with_reducible refine Kd.C_drewN ?_ _) | (with_reducible refine Kd.C_drew ?_))); (case A0 => exact Z0.out); (case E0 => repeat (first | exact (Kd.C_below D1.out (bh HB)) | (with_reducible refine Kd.C_alloc ?_ _) | (with_reducible refine Kd.C_drewN ?_ _) | (with_reducible refine Kd.C_drew ?_))); (case C0 => exact U1.out); rintro e U3 ⟨rfl, hb⟩; refine ⟨_, rfl, ?_⟩; replace n0 := tBb n0 hb; replace u0 := tBb u0 hb; replace HB := tHb HB hb; (try clear hb)))
 go_ret; exact ⟨fe, bh HB⟩
end
def F8.l0 : Nat → List (S32) → List (S32) → Int → Option (Bool)
 | 0, _, _, _ => none
 | k + 1, x0, x1, x5 => if x5 < (x0.length : Int) then (if 0 ≤ x5 then (if x5 < (x1.length : Int) then ((Gn.f k ((Qab x0 x5).f1.f0) ((Qab x0 x5).f1.f1) ((Qab x0 x5).f1.f2) ((Qab x0 x5).f1.f3) ((Qab x0 x5).f1.f4.f0) ((Qab x0 x5).f1.f4.f1) ((Qab x1 x5).f1.f0) ((Qab x1 x5).f1.f1) ((Qab x1 x5).f1.f2) ((Qab x1 x5).f1.f3) ((Qab x1 x5).f1.f4.f0) ((Qab x1 x5).f1.f4.f1)).bind fun n0 => (if n0 = true then (if ((Qab x0 x5).f0).toList = ((Qab x1 x5).f0).toList then (F8.l0 k x0 x1 (wrap64 (x5 + 1))) else (some false)) else (some false))) else (none)) else (none)) else (some true)
def F8.f (k : Nat) (l0 l1 : List (S32)) : Option (Bool) := if (l0.length : Int) = (l1.length : Int) then (F8.l0 k l0 l1 0) else (some false)
def F8.T6 : Bool × List (List Nat × List Nat) := (true, [([], []), ([], []), ([0, 1], [0, 1]), ([2], [2]), ([3], [3]), ([], []), ([], []), ([5, 6], [5, 6]), ([7], [7]), ([8], [8]), ([4, 9], [4, 9]), ([10, 10, 0, 1, 2, 3, 4, 5, 6, 7, 8, 9, 10], [10])])
def F8.B6 : List Nat := [0, 0, 3, 7, 15, 0, 0, 96, 224, 480, 1023, 2047]
theorem F8.tab6 : Qcp .any (opsOf Tryz.f13 6) = F8.T6 := by kernel_rfl
theorem F8.bits6 : Qbi F8.T6.2 F8.B6 = true := by kernel_rfl
def F8.T7 : Bool × List (List Nat × List Nat) := (true, [([], []), ([0], [0]), ([1], [1]), ([2], [2]), ([2], [2]), ([3, 4, 2], [2, 3, 4]), ([5, 2], [2, 5]), ([6, 2], [2, 6]), ([2], [2]), ([2], [2]), ([8, 9, 2], [2, 8, 9]), ([10, 2], [2, 10]), ([11, 2], [2, 11]), ([7, 12, 2], [2, 7, 12]), ([2, 13], [2, 13])])
def F8.B7 : List Nat := [0, 1, 3, 7, 7, 31, 63, 127, 7, 7, 775, 1799, 3847, 8191, 16383]
theorem F8.tab7 : Qcp .any (opsOf Tryz.f13 7) = F8.T7 := by kernel_rfl
theorem F8.bits7 : Qbi F8.T7.2 F8.B7 = true := by kernel_rfl
theorem F8.calls (k : Nat) (A0 : Option Addr) (c0 : Nat) (l0 : List (S32)) (A1 : Option Addr) (c1 : Nat) (l1 : List (S32)) (r : Bool) (w : World) (f7 : Kd.C k32 w A0 l0.length l0) (Y6 : l0.length ≤ c0) (X6 : Kd.C k32 w A1 l1.length l1) (Z6 : l1.length ≤ c1) (h : F8.f k l0 l1 = some r) :
  Calls Tryz.prog 13 #[.slice A0 l0.length c0, .slice A1 l1.length c1] w fun e w' => e = .returned (.bool r) ∧ Below w.heap.size w w' := by
 have k7 := Tryz.underlying30; have P6 := am_ f7; have w7 := am_ Y6; clear f7 Y6; have S6 := am_ X6; have D7 := am_ Z6; clear X6 Z6; have HB := am_ (Below.refl w.heap.size w); have H := h; unfold F8.f at H; clear h
 by_cases c3 : (l0.length : Int) = (l1.length : Int)
 ·
  rw [if_pos c3] at H; obtain ⟨R6, Q6⟩ := et c3; have O6 : (l0.length == l1.length) = true := by first | simpa using c3 | (simp at c3 ⊢; omega)
  clear c3; have H' := am_ H; clear H; go_enter Tryz.func13, Tryz.ntmps13; go_wp2
  go_loopg [5] k (fun kq v5 w' => ∃ (n0 : Int), v5 = .int .i64 n0 ∧ Asc (F8.l0 kq l0 l1 n0 = some r) ∧ Asc (kq ≤ k) ∧ Asc (Below w.heap.size w w'))
  case atStart => exact ⟨(0), fr, H', ⟨Nat.le_refl _⟩, ⟨bh HB⟩⟩
  case round =>
   clear H'; try clear R6 Q6 O6
   obtain ⟨n0, rfl, HA, d7, HB⟩ := hrel
   cases gk with
   | zero => exact absurd HA.out (by simp [F8.l0])
   | succ k1 =>
    have H := HA.out; clear HA; simp only [F8.l0] at H
    by_cases c4 : n0 < (l0.length : Int)
    ·
     rw [if_pos c4] at H; have W6 := dT c4; clear c4; revert H; refine gi (fun i7 H => ?_); revert H; refine gi (fun p7 H => ?_); replace H := bi H; obtain ⟨l7, A7, H⟩ := H; try dsimp only at H
     replace H := ib H; obtain ⟨rfl, H⟩ | ⟨rfl, H⟩ := H
     ·
      by_cases c9 : ((Qab l0 n0).f0).toList = ((Qab l1 n0).f0).toList
      ·
       rw [if_pos c9] at H; obtain ⟨V6, U6⟩ := et c9; clear c9; have H' := am_ H; clear H; try go_wp2
       replace HB := am_ (Qaj HB.out); have N4 : 0 ≤ (n0 : Int) := dt; have Y4 : n0 < (l0.length : Int) := dt; obtain ⟨k6, V4, P4, W4, Z4, l6, C0, P0, Q0, O0, E0, o0, M0, S3, Z3, U3, V2⟩ := Qao P6.out n0 N4 Y4; have X3 := M0; have L3 := o0; have N3 := E0; have C2 := O0; have J2 := Q0; have N2 := P0; have D3 := C0; cases l6; replace C0 := ce HB C0; replace P0 := ce HB P0; replace Q0 := ce HB Q0; replace O0 := ce HB O0; replace E0 := ce HB E0; replace o0 := ce HB o0; replace M0 := ce HB M0; have Q2 := am_ Z3; have K4 := am_ S3; clear Z3 S3; have Q3 := am_ V2; have k4 := am_ U3; clear V2 U3; replace N4 := eq_true N4; replace Y4 := eq_true Y4; have S4 : 0 ≤ (n0 : Int) := dt; have Q4 : n0 < (l1.length : Int) := dt; obtain ⟨j6, U4, X4, O4, R4, p6, N0, L0, V0, U0, I0, u0, X0, I3, J3, Y3, s3⟩ := Qao S6.out n0 S4 Q4; have u3 := X0; have D2 := u0; have L2 := I0; have Y2 := U0; have C3 := V0; have m3 := L0; have k3 := N0; cases p6; replace N0 := ce HB N0; replace L0 := ce HB L0; replace V0 := ce HB V0; replace U0 := ce HB U0; replace I0 := ce HB I0; replace u0 := ce HB u0; replace X0 := ce HB X0; have V3 := am_ J3; have M4 := am_ I3; clear J3 I3; have Z2 := am_ s3; have E4 := am_ Y3; clear s3 Y3; replace S4 := eq_true S4; replace Q4 := eq_true Q4; refine st_ 12 [] (cd_ (ce HB (by first | exact D3)) (cd_ (ce HB (by first | exact N2)) (cd_ (ce HB (by first | exact J2)) (cd_ (ce HB (by first | exact C2)) (cd_ (ce HB (by first | exact N3)) (cd_ (ce HB (by first | exact L3)) (cd_ (ce HB (by first | exact X3)) (cd_ (ce HB (by first | exact k3)) (cd_ (ce HB (by first | exact m3)) (cd_ (ce HB (by first | exact C3)) (cd_ (ce HB (by first | exact Y2)) (cd_ (ce HB (by first | exact L2)) (cd_ (ce HB (by first | exact D2)) (cd_ (ce HB (by first | exact u3)) ct)))))))))))))) (fun hHeld => ?_); refine Qav F8.tab6 F8.bits6 (fun HT_ HW_ => ?_); generalize wr.drew = s7 at HB Q2 Q3 V3 Z2 C0 P0 Q0 O0 E0 o0 M0 N0 L0 V0 U0 I0 u0 X0 hHeld ⊢; refine pu_ 0 (some 18) 1 HT_ (h := ?_); refine pu_ 1 (some 19) 3 HT_ (h := ?_); refine pu_ 2 (some 20) 7 HT_ (h := ?_); refine pu_ 3 (some 21) 15 HT_ (h := ?_); refine pu_ 5 (some 23) 47 HT_ (h := ?_); refine pu_ 6 (some 24) 111 HT_ (h := ?_); refine pu_ 7 (some 25) 239 HT_ (h := ?_); refine pu_ 8 (some 26) 495 HT_ (h := ?_); refine tk_ 4 (some 22) 511 HT_ HW_ hHeld (h := ?_); refine tk_ 9 (some 27) 1023 HT_ HW_ hHeld (h := ?_); refine on_ 10 (some 28) 2047 HT_ (fun K hK => ?_); refine Qdo Tryz.func33 #[.agg #[.int .i64 ((Qab l0 n0).f1.f0), .int .i64 ((Qab l0 n0).f1.f1), .slice V4 ((Qab l0 n0).f1.f2).length P4, .slice W4 ((Qab l0 n0).f1.f3).length Z4, .int .i64 ((Qab l0 n0).f1.f4.f0), .int .i64 ((Qab l0 n0).f1.f4.f1)], .agg #[.int .i64 ((Qab l1 n0).f1.f0), .int .i64 ((Qab l1 n0).f1.f1), .slice U4 ((Qab l1 n0).f1.f2).length X4, .slice O4 ((Qab l1 n0).f1.f3).length R4, .int .i64 ((Qab l1 n0).f1.f4.f0), .int .i64 ((Qab l1 n0).f1.f4.f1)]] ?_
       with_reducible refine (Gn.calls k1 ((Qab l0 n0).f1.f0) ((Qab l0 n0).f1.f1) _ _ ((Qab l0 n0).f1.f2) _ _ ((Qab l0 n0).f1.f3) ((Qab l0 n0).f1.f4.f0) ((Qab l0 n0).f1.f4.f1) ((Qab l1 n0).f1.f0) ((Qab l1 n0).f1.f1) _ _ ((Qab l1 n0).f1.f2) _ _ ((Qab l1 n0).f1.f3) ((Qab l1 n0).f1.f4.f0) ((Qab l1 n0).f1.f4.f1) true _ ?S5 ?U5 ?Q5 ?X5 ?R5 ?P5 ?W5 ?V5 A7.out).mono ?_
       (case S5 => exact gCB Q2 HB)
       (case U5 => exact K4.out)
       (case Q5 => exact gCB Q3 HB)
       (case X5 => exact k4.out)
       (case R5 => exact gCB V3 HB)
       (case P5 => exact M4.out)
       (case W5 => exact gCB Z2 HB)
       (case V5 => exact E4.out)
       rintro e o7 ⟨rfl, hb⟩; refine ⟨_, rfl, ?_⟩; replace HB := tHb HB hb
       (try clear hb)
       (try clear g7)
       (try clear hk)
       (try clear hi)
       refine hK.out _ _ (m0_ (ce HB (by first | exact D3)) (m0_ (ce HB (by first | exact N2)) (m0_ (ce HB (by first | exact J2)) (m0_ (ce HB (by first | exact C2)) (m0_ (ce HB (by first | exact N3)) (m0_ (ce HB (by first | exact L3)) (m0_ (ce HB (by first | exact X3)) (m0_ (ce HB (by first | exact k3)) (m0_ (ce HB (by first | exact m3)) (m0_ (ce HB (by first | exact C3)) (m0_ (ce HB (by first | exact Y2)) (m0_ (ce HB (by first | exact L2)) (m0_ (ce HB (by first | exact D2)) (m0_ (ce HB (by first | exact u3)) ct)))))))))))))) (fun hHeld => ?_); clear hK K; refine Qbb (a' := ?_) ?_ ?_; rotate_left
       ·
        show Act.put _ (some 28) _ = _; exact pt_
       refine pu_ 11 (some 6) 4095 HT_ (h := ?_); refine Qbt (Qbc HT_.out (by kernel_rfl)) ?_; try go_wp2
       replace HB := am_ (Qaj HB.out); have Z5 : 0 ≤ (n0 : Int) := dt; have Y5 : n0 < (l0.length : Int) := dt; obtain ⟨m6, E6, M6, I6, D6, K6, Z1, D1, P1, U1, L1, N1, C1, u4, I4, m4, J4⟩ := Qao P6.out n0 Z5 Y5; have c5 := C1; have K5 := N1; have D5 := L1; have A5 := U1; have J5 := P1; have M5 := D1; have m5 := Z1; obtain rfl : k6 = m6 := (by injection K6); replace Z1 := ce HB Z1; replace D1 := ce HB D1; replace P1 := ce HB P1; replace U1 := ce HB U1; replace L1 := ce HB L1; replace N1 := ce HB N1; replace C1 := ce HB C1; have k5 := am_ I4; have s6 := am_ u4; clear I4 u4; have s5 := am_ J4; have r6 := am_ m4; clear J4 m4; replace Z5 := eq_true Z5; replace Y5 := eq_true Y5; have i6 : 0 ≤ (n0 : Int) := dt; have c6 : n0 < (l1.length : Int) := dt; obtain ⟨o6, N6, A6, C6, J6, L6, Y0, Q1, O1, Y1, X1, V1, Z0, D4, L4, s4, C4⟩ := Qao S6.out n0 i6 c6; have i5 := Z0; have O5 := V1; have E5 := X1; have p5 := Y1; have C5 := O1; have L5 := Q1; have I5 := Y0; obtain rfl : j6 = o6 := (by injection L6); replace Y0 := ce HB Y0; replace Q1 := ce HB Q1; replace O1 := ce HB O1; replace Y1 := ce HB Y1; replace X1 := ce HB X1; replace V1 := ce HB V1; replace Z0 := ce HB Z0; have N5 := am_ L4; have q6 := am_ D4; clear L4 D4; have l5 := am_ C4; have z6 := am_ s4; clear C4 s4; replace i6 := eq_true i6; replace c6 := eq_true c6; refine st_ 15 [] (cd_ (ce HB (by first | exact m5)) (cd_ (ce HB (by first | exact M5)) (cd_ (ce HB (by first | exact J5)) (cd_ (ce HB (by first | exact A5)) (cd_ (ce HB (by first | exact D5)) (cd_ (ce HB (by first | exact K5)) (cd_ (ce HB (by first | exact c5)) (cd_ (ce HB (by first | exact I5)) (cd_ (ce HB (by first | exact L5)) (cd_ (ce HB (by first | exact C5)) (cd_ (ce HB (by first | exact p5)) (cd_ (ce HB (by first | exact E5)) (cd_ (ce HB (by first | exact O5)) (cd_ (ce HB (by first | exact i5)) ct)))))))))))))) (fun hHeld => ?_); refine Qav F8.tab7 F8.bits7 (fun HT_ HW_ => ?_); generalize o7.drew = z7 at HB k5 s5 N5 l5 Z1 D1 P1 U1 L1 N1 C1 Y0 Q1 O1 Y1 X1 V1 Z0 hHeld ⊢; refine pu_ 0 (some 29) 1 HT_ (h := ?_); refine pu_ 1 (some 30) 3 HT_ (h := ?_); refine pu_ 2 (some 31) 7 HT_ (h := ?_); refine pu_ 3 (some 32) 15 HT_ (h := ?_); refine pu_ 4 (some 33) 31 HT_ (h := ?_); refine pu_ 5 (some 34) 63 HT_ (h := ?_); refine pu_ 6 (some 35) 127 HT_ (h := ?_); refine pu_ 8 (some 37) 383 HT_ (h := ?_); refine pu_ 9 (some 38) 895 HT_ (h := ?_); refine pu_ 10 (some 39) 1919 HT_ (h := ?_); refine pu_ 11 (some 40) 3967 HT_ (h := ?_); refine tk_ 7 (some 36) 4095 HT_ HW_ hHeld (h := ?_); refine tk_ 12 (some 41) 8191 HT_ HW_ hHeld (h := ?_); refine pu_ 13 (some 42) 16383 HT_ (h := ?_); refine pu_ 14 (some 43) 32767 HT_ (h := ?_); refine Qbt (Qbc HT_.out (by kernel_rfl)) ?_; try go_wp2
       go_roundg k1
       case measure => have := d7.out; omega
       case rel => exact ⟨(wrap64 (n0 + 1)), fr, H', kS d7, ⟨bh HB⟩⟩
      rw [if_neg c9] at H; obtain ⟨V6, U6⟩ := ef c9; obtain rfl := Option.some.inj H; try go_wp2
      replace HB := am_ (Qaj HB.out); have N4 : 0 ≤ (n0 : Int) := dt; have Y4 : n0 < (l0.length : Int) := dt; obtain ⟨k6, V4, P4, W4, Z4, l6, C0, P0, Q0, O0, E0, o0, M0, S3, Z3, U3, V2⟩ := Qao P6.out n0 N4 Y4; have X3 := M0; have L3 := o0; have N3 := E0; have C2 := O0; have J2 := Q0; have N2 := P0; have D3 := C0; cases l6; replace C0 := ce HB C0; replace P0 := ce HB P0; replace Q0 := ce HB Q0; replace O0 := ce HB O0; replace E0 := ce HB E0; replace o0 := ce HB o0; replace M0 := ce HB M0; have Q2 := am_ Z3; have K4 := am_ S3; clear Z3 S3; have Q3 := am_ V2; have k4 := am_ U3; clear V2 U3; replace N4 := eq_true N4; replace Y4 := eq_true Y4; have S4 : 0 ≤ (n0 : Int) := dt; have Q4 : n0 < (l1.length : Int) := dt; obtain ⟨j6, U4, X4, O4, R4, p6, N0, L0, V0, U0, I0, u0, X0, I3, J3, Y3, s3⟩ := Qao S6.out n0 S4 Q4; have u3 := X0; have D2 := u0; have L2 := I0; have Y2 := U0; have C3 := V0; have m3 := L0; have k3 := N0; cases p6; replace N0 := ce HB N0; replace L0 := ce HB L0; replace V0 := ce HB V0; replace U0 := ce HB U0; replace I0 := ce HB I0; replace u0 := ce HB u0; replace X0 := ce HB X0; have V3 := am_ J3; have M4 := am_ I3; clear J3 I3; have Z2 := am_ s3; have E4 := am_ Y3; clear s3 Y3; replace S4 := eq_true S4; replace Q4 := eq_true Q4; refine st_ 12 [] (cd_ (ce HB (by first | exact D3)) (cd_ (ce HB (by first | exact N2)) (cd_ (ce HB (by first | exact J2)) (cd_ (ce HB (by first | exact C2)) (cd_ (ce HB (by first | exact N3)) (cd_ (ce HB (by first | exact L3)) (cd_ (ce HB (by first | exact X3)) (cd_ (ce HB (by first | exact k3)) (cd_ (ce HB (by first | exact m3)) (cd_ (ce HB (by first | exact C3)) (cd_ (ce HB (by first | exact Y2)) (cd_ (ce HB (by first | exact L2)) (cd_ (ce HB (by first | exact D2)) (cd_ (ce HB (by first | exact u3)) ct)))))))))))))) (fun hHeld => ?_); refine Qav F8.tab6 F8.bits6 (fun HT_ HW_ => ?_); generalize wr.drew = I7 at HB Q2 Q3 V3 Z2 C0 P0 Q0 O0 E0 o0 M0 N0 L0 V0 U0 I0 u0 X0 hHeld ⊢; refine pu_ 0 (some 18) 1 HT_ (h := ?_); refine pu_ 1 (some 19) 3 HT_ (h := ?_); refine pu_ 2 (some 20) 7 HT_ (h := ?_); refine pu_ 3 (some 21) 15 HT_ (h := ?_); refine pu_ 5 (some 23) 47 HT_ (h := ?_); refine pu_ 6 (some 24) 111 HT_ (h := ?_); refine pu_ 7 (some 25) 239 HT_ (h := ?_); refine pu_ 8 (some 26) 495 HT_ (h := ?_); refine tk_ 4 (some 22) 511 HT_ HW_ hHeld (h := ?_); refine tk_ 9 (some 27) 1023 HT_ HW_ hHeld (h := ?_); refine on_ 10 (some 28) 2047 HT_ (fun K hK => ?_); refine Qdo Tryz.func33 #[.agg #[.int .i64 ((Qab l0 n0).f1.f0), .int .i64 ((Qab l0 n0).f1.f1), .slice V4 ((Qab l0 n0).f1.f2).length P4, .slice W4 ((Qab l0 n0).f1.f3).length Z4, .int .i64 ((Qab l0 n0).f1.f4.f0), .int .i64 ((Qab l0 n0).f1.f4.f1)], .agg #[.int .i64 ((Qab l1 n0).f1.f0), .int .i64 ((Qab l1 n0).f1.f1), .slice U4 ((Qab l1 n0).f1.f2).length X4, .slice O4 ((Qab l1 n0).f1.f3).length R4, .int .i64 ((Qab l1 n0).f1.f4.f0), .int .i64 ((Qab l1 n0).f1.f4.f1)]] ?_
      with_reducible refine (Gn.calls k1 ((Qab l0 n0).f1.f0) ((Qab l0 n0).f1.f1) _ _ ((Qab l0 n0).f1.f2) _ _ ((Qab l0 n0).f1.f3) ((Qab l0 n0).f1.f4.f0) ((Qab l0 n0).f1.f4.f1) ((Qab l1 n0).f1.f0) ((Qab l1 n0).f1.f1) _ _ ((Qab l1 n0).f1.f2) _ _ ((Qab l1 n0).f1.f3) ((Qab l1 n0).f1.f4.f0) ((Qab l1 n0).f1.f4.f1) true _ ?S5 ?U5 ?Q5 ?X5 ?R5 ?P5 ?W5 ?V5 A7.out).mono ?_
      (case S5 => exact gCB Q2 HB)
      (case U5 => exact K4.out)
      (case Q5 => exact gCB Q3 HB)
      (case X5 => exact k4.out)
      (case R5 => exact gCB V3 HB)
      (case P5 => exact M4.out)
      (case W5 => exact gCB Z2 HB)
      (case V5 => exact E4.out)
      rintro e j7 ⟨rfl, hb⟩; refine ⟨_, rfl, ?_⟩; replace HB := tHb HB hb
      (try clear hb)
      (try clear g7)
      (try clear hk)
      (try clear hi)
      refine hK.out _ _ (m0_ (ce HB (by first | exact D3)) (m0_ (ce HB (by first | exact N2)) (m0_ (ce HB (by first | exact J2)) (m0_ (ce HB (by first | exact C2)) (m0_ (ce HB (by first | exact N3)) (m0_ (ce HB (by first | exact L3)) (m0_ (ce HB (by first | exact X3)) (m0_ (ce HB (by first | exact k3)) (m0_ (ce HB (by first | exact m3)) (m0_ (ce HB (by first | exact C3)) (m0_ (ce HB (by first | exact Y2)) (m0_ (ce HB (by first | exact L2)) (m0_ (ce HB (by first | exact D2)) (m0_ (ce HB (by first | exact u3)) ct)))))))))))))) (fun hHeld => ?_); clear hK K; refine Qbb (a' := ?_) ?_ ?_; rotate_left
      ·
       show Act.put _ (some 28) _ = _; exact pt_
      refine pu_ 11 (some 6) 4095 HT_ (h := ?_); refine Qbt (Qbc HT_.out (by kernel_rfl)) ?_; try go_wp2
      replace HB := am_ (Qaj HB.out); have Z5 : 0 ≤ (n0 : Int) := dt; have Y5 : n0 < (l0.length : Int) := dt; obtain ⟨m6, E6, M6, I6, D6, K6, Z1, D1, P1, U1, L1, N1, C1, u4, I4, m4, J4⟩ := Qao P6.out n0 Z5 Y5; have c5 := C1; have K5 := N1; have D5 := L1; have A5 := U1; have J5 := P1; have M5 := D1; have m5 := Z1; obtain rfl : k6 = m6 := (by injection K6); replace Z1 := ce HB Z1; replace D1 := ce HB D1; replace P1 := ce HB P1; replace U1 := ce HB U1; replace L1 := ce HB L1; replace N1 := ce HB N1; replace C1 := ce HB C1; have k5 := am_ I4; have s6 := am_ u4; clear I4 u4; have s5 := am_ J4; have r6 := am_ m4; clear J4 m4; replace Z5 := eq_true Z5; replace Y5 := eq_true Y5; have i6 : 0 ≤ (n0 : Int) := dt; have c6 : n0 < (l1.length : Int) := dt; obtain ⟨o6, N6, A6, C6, J6, L6, Y0, Q1, O1, Y1, X1, V1, Z0, D4, L4, s4, C4⟩ := Qao S6.out n0 i6 c6; have i5 := Z0; have O5 := V1; have E5 := X1; have p5 := Y1; have C5 := O1; have L5 := Q1; have I5 := Y0; obtain rfl : j6 = o6 := (by injection L6); replace Y0 := ce HB Y0; replace Q1 := ce HB Q1; replace O1 := ce HB O1; replace Y1 := ce HB Y1; replace X1 := ce HB X1; replace V1 := ce HB V1; replace Z0 := ce HB Z0; have N5 := am_ L4; have q6 := am_ D4; clear L4 D4; have l5 := am_ C4; have z6 := am_ s4; clear C4 s4; replace i6 := eq_true i6; replace c6 := eq_true c6; refine st_ 15 [] (cd_ (ce HB (by first | exact m5)) (cd_ (ce HB (by first | exact M5)) (cd_ (ce HB (by first | exact J5)) (cd_ (ce HB (by first | exact A5)) (cd_ (ce HB (by first | exact D5)) (cd_ (ce HB (by first | exact K5)) (cd_ (ce HB (by first | exact c5)) (cd_ (ce HB (by first | exact I5)) (cd_ (ce HB (by first | exact L5)) (cd_ (ce HB (by first | exact C5)) (cd_ (ce HB (by first | exact p5)) (cd_ (ce HB (by first | exact E5)) (cd_ (ce HB (by first | exact O5)) (cd_ (ce HB (by first | exact i5)) ct)))))))))))))) (fun hHeld => ?_); refine Qav F8.tab7 F8.bits7 (fun HT_ HW_ => ?_); generalize j7.drew = C7 at HB k5 s5 N5 l5 Z1 D1 P1 U1 L1 N1 C1 Y0 Q1 O1 Y1 X1 V1 Z0 hHeld ⊢; refine pu_ 0 (some 29) 1 HT_ (h := ?_); refine pu_ 1 (some 30) 3 HT_ (h := ?_); refine pu_ 2 (some 31) 7 HT_ (h := ?_); refine pu_ 3 (some 32) 15 HT_ (h := ?_); refine pu_ 4 (some 33) 31 HT_ (h := ?_); refine pu_ 5 (some 34) 63 HT_ (h := ?_); refine pu_ 6 (some 35) 127 HT_ (h := ?_); refine pu_ 8 (some 37) 383 HT_ (h := ?_); refine pu_ 9 (some 38) 895 HT_ (h := ?_); refine pu_ 10 (some 39) 1919 HT_ (h := ?_); refine pu_ 11 (some 40) 3967 HT_ (h := ?_); refine tk_ 7 (some 36) 4095 HT_ HW_ hHeld (h := ?_); refine tk_ 12 (some 41) 8191 HT_ HW_ hHeld (h := ?_); refine pu_ 13 (some 42) 16383 HT_ (h := ?_); refine pu_ 14 (some 43) 32767 HT_ (h := ?_); refine Qbt (Qbc HT_.out (by kernel_rfl)) ?_; try go_wp2
      go_ret; exact ⟨fe, bh HB⟩
     obtain rfl := Option.some.inj H; try go_wp2
     replace HB := am_ (Qaj HB.out); have N4 : 0 ≤ (n0 : Int) := dt; have Y4 : n0 < (l0.length : Int) := dt; obtain ⟨k6, V4, P4, W4, Z4, l6, C0, P0, Q0, O0, E0, o0, M0, S3, Z3, U3, V2⟩ := Qao P6.out n0 N4 Y4; have X3 := M0; have L3 := o0; have N3 := E0; have C2 := O0; have J2 := Q0; have N2 := P0; have D3 := C0; cases l6; replace C0 := ce HB C0; replace P0 := ce HB P0; replace Q0 := ce HB Q0; replace O0 := ce HB O0; replace E0 := ce HB E0; replace o0 := ce HB o0; replace M0 := ce HB M0; have Q2 := am_ Z3; have K4 := am_ S3; clear Z3 S3; have Q3 := am_ V2; have k4 := am_ U3; clear V2 U3; replace N4 := eq_true N4; replace Y4 := eq_true Y4; have S4 : 0 ≤ (n0 : Int) := dt; have Q4 : n0 < (l1.length : Int) := dt; obtain ⟨j6, U4, X4, O4, R4, p6, N0, L0, V0, U0, I0, u0, X0, I3, J3, Y3, s3⟩ := Qao S6.out n0 S4 Q4; have u3 := X0; have D2 := u0; have L2 := I0; have Y2 := U0; have C3 := V0; have m3 := L0; have k3 := N0; cases p6; replace N0 := ce HB N0; replace L0 := ce HB L0; replace V0 := ce HB V0; replace U0 := ce HB U0; replace I0 := ce HB I0; replace u0 := ce HB u0; replace X0 := ce HB X0; have V3 := am_ J3; have M4 := am_ I3; clear J3 I3; have Z2 := am_ s3; have E4 := am_ Y3; clear s3 Y3; replace S4 := eq_true S4; replace Q4 := eq_true Q4; refine st_ 12 [] (cd_ (ce HB (by first | exact D3)) (cd_ (ce HB (by first | exact N2)) (cd_ (ce HB (by first | exact J2)) (cd_ (ce HB (by first | exact C2)) (cd_ (ce HB (by first | exact N3)) (cd_ (ce HB (by first | exact L3)) (cd_ (ce HB (by first | exact X3)) (cd_ (ce HB (by first | exact k3)) (cd_ (ce HB (by first | exact m3)) (cd_ (ce HB (by first | exact C3)) (cd_ (ce HB (by first | exact Y2)) (cd_ (ce HB (by first | exact L2)) (cd_ (ce HB (by first | exact D2)) (cd_ (ce HB (by first | exact u3)) ct)))))))))))))) (fun hHeld => ?_); refine Qav F8.tab6 F8.bits6 (fun HT_ HW_ => ?_); generalize wr.drew = w16 at HB Q2 Q3 V3 Z2 C0 P0 Q0 O0 E0 o0 M0 N0 L0 V0 U0 I0 u0 X0 hHeld ⊢; refine pu_ 0 (some 18) 1 HT_ (h := ?_); refine pu_ 1 (some 19) 3 HT_ (h := ?_); refine pu_ 2 (some 20) 7 HT_ (h := ?_); refine pu_ 3 (some 21) 15 HT_ (h := ?_); refine pu_ 5 (some 23) 47 HT_ (h := ?_); refine pu_ 6 (some 24) 111 HT_ (h := ?_); refine pu_ 7 (some 25) 239 HT_ (h := ?_); refine pu_ 8 (some 26) 495 HT_ (h := ?_); refine tk_ 4 (some 22) 511 HT_ HW_ hHeld (h := ?_); refine tk_ 9 (some 27) 1023 HT_ HW_ hHeld (h := ?_); refine on_ 10 (some 28) 2047 HT_ (fun K hK => ?_); refine Qdo Tryz.func33 #[.agg #[.int .i64 ((Qab l0 n0).f1.f0), .int .i64 ((Qab l0 n0).f1.f1), .slice V4 ((Qab l0 n0).f1.f2).length P4, .slice W4 ((Qab l0 n0).f1.f3).length Z4, .int .i64 ((Qab l0 n0).f1.f4.f0), .int .i64 ((Qab l0 n0).f1.f4.f1)], .agg #[.int .i64 ((Qab l1 n0).f1.f0), .int .i64 ((Qab l1 n0).f1.f1), .slice U4 ((Qab l1 n0).f1.f2).length X4, .slice O4 ((Qab l1 n0).f1.f3).length R4, .int .i64 ((Qab l1 n0).f1.f4.f0), .int .i64 ((Qab l1 n0).f1.f4.f1)]] ?_
     with_reducible refine (Gn.calls k1 ((Qab l0 n0).f1.f0) ((Qab l0 n0).f1.f1) _ _ ((Qab l0 n0).f1.f2) _ _ ((Qab l0 n0).f1.f3) ((Qab l0 n0).f1.f4.f0) ((Qab l0 n0).f1.f4.f1) ((Qab l1 n0).f1.f0) ((Qab l1 n0).f1.f1) _ _ ((Qab l1 n0).f1.f2) _ _ ((Qab l1 n0).f1.f3) ((Qab l1 n0).f1.f4.f0) ((Qab l1 n0).f1.f4.f1) false _ ?S5 ?U5 ?Q5 ?X5 ?R5 ?P5 ?W5 ?V5 A7.out).mono ?_
     (case S5 => exact gCB Q2 HB)
     (case U5 => exact K4.out)
     (case Q5 => exact gCB Q3 HB)
     (case X5 => exact k4.out)
     (case R5 => exact gCB V3 HB)
     (case P5 => exact M4.out)
     (case W5 => exact gCB Z2 HB)
     (case V5 => exact E4.out)
     rintro e m7 ⟨rfl, hb⟩; refine ⟨_, rfl, ?_⟩; replace HB := tHb HB hb
     (try clear hb)
     (try clear g7)
     (try clear hk)
     (try clear hi)
     refine hK.out _ _ (m0_ (ce HB (by first | exact D3)) (m0_ (ce HB (by first | exact N2)) (m0_ (ce HB (by first | exact J2)) (m0_ (ce HB (by first | exact C2)) (m0_ (ce HB (by first | exact N3)) (m0_ (ce HB (by first | exact L3)) (m0_ (ce HB (by first | exact X3)) (m0_ (ce HB (by first | exact k3)) (m0_ (ce HB (by first | exact m3)) (m0_ (ce HB (by first | exact C3)) (m0_ (ce HB (by first | exact Y2)) (m0_ (ce HB (by first | exact L2)) (m0_ (ce HB (by first | exact D2)) (m0_ (ce HB (by first | exact u3)) ct)))))))))))))) (fun hHeld => ?_); clear hK K; refine Qbb (a' := ?_) ?_ ?_; rotate_left
     ·
      show Act.put _ (some 28) _ = _; exact pt_
     refine pu_ 11 (some 6) 4095 HT_ (h := ?_); refine Qbt (Qbc HT_.out (by kernel_rfl)) ?_; try go_wp2
     replace HB := am_ (Qaj HB.out); refine Qcw (n := 15) (S := fun w' => True) (ds := []) #[false, false, false, false, false, false, false, false, false, false, false, false, false, false, false] (by kernel_rfl) rfl rfl trivial (fun hHeld => ?_); refine Qav F8.tab7 F8.bits7 (fun HT_ HW_ => ?_); generalize m7.drew = t7 at HB hHeld ⊢; refine pu_ 0 (some 29) 1 HT_ (h := ?_); refine pu_ 1 (some 30) 3 HT_ (h := ?_); refine pu_ 2 (some 31) 7 HT_ (h := ?_); refine pn_ 3 (some 32) 15 HT_ (h := ?_); refine pn_ 4 (some 33) 31 HT_ (h := ?_); refine pn_ 5 (some 34) 63 HT_ (h := ?_); refine pn_ 6 (some 35) 127 HT_ (h := ?_); refine pn_ 7 (some 36) 255 HT_ (h := ?_); refine pn_ 8 (some 37) 511 HT_ (h := ?_); refine pn_ 9 (some 38) 1023 HT_ (h := ?_); refine pn_ 10 (some 39) 2047 HT_ (h := ?_); refine pn_ 11 (some 40) 4095 HT_ (h := ?_); refine pn_ 12 (some 41) 8191 HT_ (h := ?_); refine pn_ 13 (some 42) 16383 HT_ (h := ?_); refine pu_ 14 (some 43) 32767 HT_ (h := ?_); refine Qbt (Qbc HT_.out (by kernel_rfl)) ?_; try go_wp2
     go_ret; exact ⟨fe, bh HB⟩
    rw [if_neg c4] at H; have W6 := dF c4; clear c4; obtain rfl := Option.some.inj H; go_wp2; go_ret; exact ⟨fe, bh HB⟩
 rw [if_neg c3] at H; obtain ⟨R6, Q6⟩ := ef c3; have O6 : (l0.length == l1.length) = false := by first | simpa using c3 | (simp at c3 ⊢; omega)
 obtain rfl := Option.some.inj H; go_enter Tryz.func13, Tryz.ntmps13; go_wp2; go_ret; exact ⟨fe, bh HB⟩
mutual
def Fb.l0 : Nat → Int → Int → Int → List (S32) → Option (Bool)
 | 0, _, _, _, _ => none
 | k + 1, x3, o0, u0, n0 => if x3 < (n0.length : Int) then (Fb.l1 k x3 0 o0 u0 n0) else (some true)
def Fb.l1 : Nat → Int → Int → Int → Int → List (S32) → Option (Bool)
 | 0, _, _, _, _, _ => none
 | k + 1, x3, x4, o0, u0, n0 => if x4 < x3 then (if 0 ≤ x3 then (if x3 < (n0.length : Int) then (if 0 ≤ x4 then (if x4 < (n0.length : Int) then (if ((Qab n0 x3).f0).toList = ((Qab n0 x4).f0).toList then (some false) else (Fb.l1 k x3 (wrap64 (x4 + 1)) o0 u0 n0)) else (none)) else (none)) else (none)) else (none)) else (Fb.l0 k (wrap64 (x3 + 1)) o0 u0 n0)
end
def Fb.f (k : Nat) (a0_0 a0_1 : Int) (l0_2 : List (S32)) : Option (Bool) := Fb.l0 k 0 a0_0 a0_1 l0_2
theorem Fb.mono_l : ∀ k, (∀ y0 y1 y2 y3, LeO (Fb.l0 k y0 y1 y2 y3) (Fb.l0 (k + 1) y0 y1 y2 y3)) ∧ (∀ y0 y1 y2 y3 y4, LeO (Fb.l1 k y0 y1 y2 y3 y4) (Fb.l1 (k + 1) y0 y1 y2 y3 y4))
 | 0 => ⟨fun _ _ _ _ r h => by simp [Fb.l0] at h, fun _ _ _ _ _ r h => by simp [Fb.l1] at h⟩
 | k + 1 => by
  obtain ⟨o0, n0⟩ := Fb.mono_l k; refine ⟨?_, ?_⟩
  ·
   intro y0 y1 y2 y3; unfold Fb.l0; repeat' first | (with_reducible first | exact o0 _ _ _ _ | exact n0 _ _ _ _ _ | exact LeO.refl _ | exact LeO.none _ | refine LeO.ite ?_ ?_ | refine LeO.bind ?_ (fun _ => ?_)) | exact o0 _ _ _ _ | exact n0 _ _ _ _ _ | refine LeO.ite ?_ ?_ | refine LeO.bind ?_ (fun _ => ?_)
  intro y0 y1 y2 y3 y4; unfold Fb.l1; repeat' first | (with_reducible first | exact o0 _ _ _ _ | exact n0 _ _ _ _ _ | exact LeO.refl _ | exact LeO.none _ | refine LeO.ite ?_ ?_ | refine LeO.bind ?_ (fun _ => ?_)) | exact o0 _ _ _ _ | exact n0 _ _ _ _ _ | refine LeO.ite ?_ ?_ | refine LeO.bind ?_ (fun _ => ?_)
theorem Fb.calls (k : Nat) (a0_0 a0_1 : Int) (A0_2 : Option Addr) (c0_2 : Nat) (l0_2 : List (S32)) (r : Bool) (w : World) (hr0_2 : Kd.C k32 w A0_2 l0_2.length l0_2) (hc0_2 : l0_2.length ≤ c0_2) (h : Fb.f k a0_0 a0_1 l0_2 = some r) :
  Calls Tryz.prog 18 #[.agg #[.int .i64 a0_0, .int .i64 a0_1, .slice A0_2 l0_2.length c0_2]] w fun e w' => e = .returned (.bool r) ∧ Below w.heap.size w w' := by
 have O4 := Tryz.underlying24; have C2 := am_ hr0_2; have J4 := am_ hc0_2; clear hr0_2 hc0_2; have HB := am_ (Below.refl w.heap.size w); have H := h; unfold Fb.f at H; clear h; have H' := am_ H; clear H; go_enter Tryz.func18, Tryz.ntmps18
 go_wp2_with (first | (refine bf_ 1 #[.int .i64 a0_0, .int .i64 a0_1, .slice A0_2 l0_2.length c0_2] 24 HB ?_; intro Z1 hg w2 hb n0 s3 HB; clear hb hg))
 (try simp only [Act.put, List.setIfInBounds_toArray, List.set_cons_zero, List.set_cons_succ])
 repeat (go_quiet (first | (refine bf_ 1 #[.int .i64 a0_0, .int .i64 a0_1, .slice A0_2 l0_2.length c0_2] 24 HB ?_; intro Z1 hg w2 hb n0 s3 HB; clear hb hg)); try go_wp2_with (first | (refine bf_ 1 #[.int .i64 a0_0, .int .i64 a0_1, .slice A0_2 l0_2.length c0_2] 24 HB ?_; intro Z1 hg w2 hb n0 s3 HB; clear hb hg)))
 go_loopg [3] k (fun kq v3 w' => ∃ (u0 : Int), v3 = .int .i64 u0 ∧ Asc (Fb.l0 kq u0 a0_0 a0_1 l0_2 = some r) ∧ Asc (kq ≤ k) ∧ Asc (w'.heap[Z1]? = some (.cells #[.int .i64 a0_0, .int .i64 a0_1, (.slice A0_2 l0_2.length c0_2)] 24 (0, 0))) ∧ Asc (Below w.heap.size w w'))
 case atStart => exact ⟨(0), fr, H', ⟨Nat.le_refl _⟩, ⟨gB n0⟩, ⟨bh HB⟩⟩
 case round =>
  clear H'; obtain ⟨u0, rfl, HA, Z3, n0, HB⟩ := hrel
  cases gk with
  | zero => exact absurd HA.out (by simp [Fb.l0])
  | succ k1 =>
   have H := HA.out; clear HA; simp only [Fb.l0] at H
   by_cases c3 : u0 < (l0_2.length : Int)
   ·
    rw [if_pos c3] at H; have Y3 := dT c3; clear c3; have H' := am_ H; clear H; obtain ⟨D4, C4, I4, s4, E4, m4⟩ := bx3 n0; go_wp2; repeat (go_quiet (fail); try go_wp2)
    go_loopg [4] k1 (fun kq v4 w' => ∃ (Q1 : Int), v4 = .int .i64 Q1 ∧ Asc (Fb.l1 kq u0 Q1 a0_0 a0_1 l0_2 = some r) ∧ Asc (kq ≤ k1) ∧ Asc (w'.heap[Z1]? = some (.cells #[.int .i64 a0_0, .int .i64 a0_1, (.slice A0_2 l0_2.length c0_2)] 24 (0, 0))) ∧ Asc (Below w.heap.size w w'))
    case atStart => exact ⟨(0), fr, H', ⟨Nat.le_refl _⟩, ⟨gB n0⟩, ⟨bh HB⟩⟩
    case round =>
     clear H'; try clear Y3 D4 C4 I4 s4 E4 m4
     obtain ⟨Q1, rfl, HA, k4, n0, HB⟩ := hrel
     cases gk with
     | zero => exact absurd HA.out (by simp [Fb.l1])
     | succ k2 =>
      have H := HA.out; clear HA; simp only [Fb.l1] at H
      by_cases c5 : Q1 < u0
      ·
       rw [if_pos c5] at H; have u4 := dT c5; clear c5; revert H; refine gi (fun K4 H => ?_); revert H; refine gi (fun L4 H => ?_); revert H; refine gi (fun M4 H => ?_); revert H; refine gi (fun N4 H => ?_)
       by_cases c10 : ((Qab l0_2 u0).f0).toList = ((Qab l0_2 Q1).f0).toList
       ·
        rw [if_pos c10] at H; obtain ⟨X3, V3⟩ := et c10; clear c10; obtain rfl := Option.some.inj H; have _ := bx3 n0; have V1 : 0 ≤ (u0 : Int) := dt; have X1 : u0 < (l0_2.length : Int) := dt; obtain ⟨D2, U3, N3, J3, u3, L3, o0, P1, L1, D1, U0, L0, I0, E0, Q0, C0, Y0⟩ := Qao C2.out u0 V1 X1; cases L3; replace o0 := ce HB o0; replace P1 := ce HB P1; replace L1 := ce HB L1; replace D1 := ce HB D1; replace U0 := ce HB U0; replace L0 := ce HB L0; replace I0 := ce HB I0; have k3 := am_ Q0; have Z2 := am_ E0; clear Q0 E0; have V2 := am_ Y0; have Y2 := am_ C0; clear Y0 C0; replace V1 := eq_true V1; replace X1 := eq_true X1; have U1 : 0 ≤ (Q1 : Int) := dt; have Y1 : Q1 < (l0_2.length : Int) := dt; obtain ⟨J2, D3, C3, I3, S3, Q3, P0, Z0, M0, X0, C1, O1, V0, N0, O0, A0, N1⟩ := Qao C2.out Q1 U1 Y1; obtain rfl : D2 = J2 := (by injection Q3); replace P0 := ce HB P0; replace Z0 := ce HB Z0; replace M0 := ce HB M0; replace X0 := ce HB X0; replace C1 := ce HB C1; replace O1 := ce HB O1; replace V0 := ce HB V0; have L2 := am_ O0; have m3 := am_ N0; clear O0 N0; have N2 := am_ N1; have Q2 := am_ A0; clear N1 A0; replace U1 := eq_true U1; replace Y1 := eq_true Y1; go_wp2; repeat (go_quiet (fail); try go_wp2)
        go_ret; exact ⟨fe, bh HB⟩
       rw [if_neg c10] at H; obtain ⟨X3, V3⟩ := ef c10; have H' := am_ H; clear H; have _ := bx3 n0; have V1 : 0 ≤ (u0 : Int) := dt; have X1 : u0 < (l0_2.length : Int) := dt; obtain ⟨D2, U3, N3, J3, u3, L3, o0, P1, L1, D1, U0, L0, I0, E0, Q0, C0, Y0⟩ := Qao C2.out u0 V1 X1; cases L3; replace o0 := ce HB o0; replace P1 := ce HB P1; replace L1 := ce HB L1; replace D1 := ce HB D1; replace U0 := ce HB U0; replace L0 := ce HB L0; replace I0 := ce HB I0; have k3 := am_ Q0; have Z2 := am_ E0; clear Q0 E0; have V2 := am_ Y0; have Y2 := am_ C0; clear Y0 C0; replace V1 := eq_true V1; replace X1 := eq_true X1; have U1 : 0 ≤ (Q1 : Int) := dt; have Y1 : Q1 < (l0_2.length : Int) := dt; obtain ⟨J2, D3, C3, I3, S3, Q3, P0, Z0, M0, X0, C1, O1, V0, N0, O0, A0, N1⟩ := Qao C2.out Q1 U1 Y1; obtain rfl : D2 = J2 := (by injection Q3); replace P0 := ce HB P0; replace Z0 := ce HB Z0; replace M0 := ce HB M0; replace X0 := ce HB X0; replace C1 := ce HB C1; replace O1 := ce HB O1; replace V0 := ce HB V0; have L2 := am_ O0; have m3 := am_ N0; clear O0 N0; have N2 := am_ N1; have Q2 := am_ A0; clear N1 A0; replace U1 := eq_true U1; replace Y1 := eq_true Y1; go_wp2; repeat (go_quiet (fail); try go_wp2)
       go_roundg k2
       case measure => have := Z3.out; have := k4.out; omega
       case rel => exact ⟨(wrap64 (Q1 + 1)), fr, H', ⟨by have := Z3.out; have := k4.out; omega⟩, ⟨gB n0⟩, ⟨bh HB⟩⟩
      rw [if_neg c5] at H; have u4 := dF c5; clear c5; have H' := am_ H; clear H; go_wp2; repeat (go_quiet (fail); try go_wp2)
      go_roundg k2
      case measure => have := Z3.out; have := k4.out; omega
      case rel => exact ⟨(wrap64 (u0 + 1)), fr, H', ⟨by have := Z3.out; have := k4.out; omega⟩, ⟨gB n0⟩, ⟨bh HB⟩⟩
   rw [if_neg c3] at H; have Y3 := dF c3; clear c3; obtain rfl := Option.some.inj H; have _ := bx3 n0; go_wp2; repeat (go_quiet (fail); try go_wp2)
   go_ret; exact ⟨fe, bh HB⟩

mutual
def F7.l0 : Nat → List (S76) → Int → Option (Bool)
 | 0, _, _ => none
 | k + 1, x0, x3 => if x3 < (x0.length : Int) then (if 0 ≤ x3 then (if ((Qal x0 x3).f0) < 1 then (F7.j1 k x0 x3 true) else (F7.j1 k x0 x3 (decide (((Qal x0 x3).f0) > 64)))) else (none)) else (some true)
def F7.j1 : Nat → List (S76) → Int → Bool → Option (Bool)
 | 0, _, _, _ => none
 | k + 1, x0, x3, n0 => if n0 = true then (some false) else (F7.l1 k x0 x3 0)
def F7.l1 : Nat → List (S76) → Int → Int → Option (Bool)
 | 0, _, _, _ => none
 | k + 1, x0, x3, x4 => if x4 < x3 then (if 0 ≤ x4 then (if x4 < (x0.length : Int) then (if 0 ≤ x3 then (if x3 < (x0.length : Int) then (if ((Qal x0 x4).f0) = ((Qal x0 x3).f0) then (some false) else (F7.l1 k x0 x3 (wrap64 (x4 + 1)))) else (none)) else (none)) else (none)) else (none)) else (F7.l0 k x0 (wrap64 (x3 + 1)))
end
def F7.f (k : Nat) (l0 : List (S76)) : Option (Bool) := if (l0.length : Int) > 64 then (some false) else (F7.l0 k l0 0)
theorem F7.calls (k : Nat) (A0 : Option Addr) (c0 : Nat) (l0 : List (S76)) (r : Bool) (w : World) (X3 : Kd.C k76 w A0 l0.length l0) (V3 : l0.length ≤ c0) (h : F7.f k l0 = some r) :
  Calls Tryz.prog 76 #[.slice A0 l0.length c0] w fun e w' => e = .returned (.bool r) ∧ Qae w w' := by
 have X1 := am_ X3; have k4 := am_ V3; clear X3 V3; have H := h; unfold F7.f at H; clear h
 by_cases c2 : (l0.length : Int) > 64
 ·
  rw [if_pos c2] at H; have V2 : decide (64 < (l0.length : Int)) = true := dT c2; have N2 : decide (64 < l0.length) = true := decide_eq_true (by omega); clear c2; obtain rfl := Option.some.inj H; go_enter Tryz.func76, Tryz.ntmps76; go_wp2; repeat (go_quiet (fail); try go_wp2)
  go_ret; exact ⟨fr, by repeat (first | exact Qae.refl _ | apply Qae.step)⟩
 rw [if_neg c2] at H; have V2 : decide (64 < (l0.length : Int)) = false := dF c2; have N2 : decide (64 < l0.length) = false := decide_eq_false (by omega); clear c2; have H' := am_ H; clear H; go_enter Tryz.func76, Tryz.ntmps76; go_wp2; repeat (go_quiet (fail); try go_wp2)
 go_loopg [3] k (fun kq v3 w' => ∃ (n0 : Int), v3 = .int .i64 n0 ∧ Asc (F7.l0 kq l0 n0 = some r) ∧ Asc (kq ≤ k) ∧ Qae w w')
 case atStart => exact ⟨(0), fr, H', ⟨Nat.le_refl _⟩, by repeat (first | exact Qae.refl _ | apply Qae.step)⟩
 case round =>
  clear H'; try clear V2 N2
  obtain ⟨n0, rfl, HA, Y1, ⟨m1, rfl⟩⟩ := hrel
  cases gk with
  | zero => exact absurd HA.out (by simp [F7.l0])
  | succ k1 =>
   have H := HA.out; clear HA; simp only [F7.l0] at H
   by_cases c3 : n0 < (l0.length : Int)
   ·
    rw [if_pos c3] at H; have Q2 := dT c3; clear c3; have J3 := am_ H; clear H
    go_upto_region 6 with (fail)
    repeat (go_quiet (fail); go_upto_region 6 with (fail))
    go_cut [27] (fun Y3 wc => ∃ (kq : Nat) (N0 : Bool), Y3 = .bool N0 ∧ Asc (F7.j1 kq l0 n0 N0 = some r) ∧ Asc (kq ≤ k1) ∧ Qae w wc)
    case first =>
     have H := J3.out; clear J3; revert H; refine gi (fun C2 H => ?_)
     (first | rw [C2] | (simp only [Qay, Qa3]; rw [C2]) | skip)
     by_cases c6 : ((Qal l0 n0).f0) < 1
     ·
      rw [if_pos c6] at H; have I3 := dT c6; clear c6; have H' := am_ H; clear H; have M0 : 0 ≤ (n0 : Int) := dt; have u0 : n0 < (l0.length : Int) := dt; obtain ⟨N1, U1, X0, U0, D1⟩ := Qb1 X1.out n0 M0 u0; cases U1; replace M0 := eq_true M0; replace u0 := eq_true u0; go_wp2; repeat (go_quiet (fail); try go_wp2)
      go_meet
      case rel => exact ⟨_, (true), fr, H', ⟨by have := Y1.out; first | omega | exact Nat.le_refl _⟩, by repeat (first | exact Qae.refl _ | apply Qae.step)⟩
     rw [if_neg c6] at H; have I3 := dF c6; clear c6; have H' := am_ H; clear H; have M0 : 0 ≤ (n0 : Int) := dt; have u0 : n0 < (l0.length : Int) := dt; obtain ⟨N1, U1, X0, U0, D1⟩ := Qb1 X1.out n0 M0 u0; cases U1; replace M0 := eq_true M0; replace u0 := eq_true u0; have Q1 : 0 ≤ (n0 : Int) := dt; have V1 : n0 < (l0.length : Int) := dt; obtain ⟨Z1, D3, u3, s3, Y2⟩ := Qb1 X1.out n0 Q1 V1; obtain rfl : N1 = Z1 := (by injection D3); replace Q1 := eq_true Q1; replace V1 := eq_true V1; go_wp2; repeat (go_quiet (fail); try go_wp2)
     go_meet
     case rel => exact ⟨_, (decide (((Qal l0 n0).f0) > 64)), fr, H', ⟨by have := Y1.out; first | omega | exact Nat.le_refl _⟩, by repeat (first | exact Qae.refl _ | apply Qae.step)⟩
    case rest =>
     clear J3; try clear Q2
     obtain ⟨kq, N0, rfl, HA, C3, ⟨m4, rfl⟩⟩ := hcut
     cases kq with
     | zero => exact absurd HA.out (by simp [F7.j1])
     | succ S3 =>
      have H := HA.out; clear HA; simp only [F7.j1] at H; replace H := ib H; obtain ⟨rfl, H⟩ | ⟨rfl, H⟩ := H
      ·
       obtain rfl := Option.some.inj H; go_wp2; repeat (go_quiet (fail); try go_wp2)
       go_ret; exact ⟨fr, by repeat (first | exact Qae.refl _ | apply Qae.step)⟩
      have H' := am_ H; clear H; go_wp2; repeat (go_quiet (fail); try go_wp2)
      go_loopg [4] S3 (fun kq v4 w' => ∃ (o0 : Int), v4 = .int .i64 o0 ∧ Asc (F7.l1 kq l0 n0 o0 = some r) ∧ Asc (kq ≤ S3) ∧ Qae w w')
      case atStart => exact ⟨(0), fr, H', ⟨Nat.le_refl _⟩, by repeat (first | exact Qae.refl _ | apply Qae.step)⟩
      case round =>
       clear H'; try clear c7
       obtain ⟨o0, rfl, HA, Z2, ⟨m3, rfl⟩⟩ := hrel
       cases gk with
       | zero => exact absurd HA.out (by simp [F7.l1])
       | succ k3 =>
        have H := HA.out; clear HA; simp only [F7.l1] at H
        by_cases c8 : o0 < n0
        ·
         rw [if_pos c8] at H; have L3 := dT c8; clear c8; revert H; refine gi (fun Z3 H => ?_); revert H; refine gi (fun U3 H => ?_); revert H; refine gi (fun Q3 H => ?_); revert H; refine gi (fun N3 H => ?_)
         by_cases L2 : ((Qal l0 o0).f0) = ((Qal l0 n0).f0)
         ·
          rw [if_pos L2] at H; obtain ⟨D2, J2⟩ := et L2; clear L2; obtain rfl := Option.some.inj H; have E0 : 0 ≤ (o0 : Int) := dt; have L0 : o0 < (l0.length : Int) := dt; obtain ⟨P0, O1, Z0, Y0, C1⟩ := Qb1 X1.out o0 E0 L0; cases O1; replace E0 := eq_true E0; replace L0 := eq_true L0; have I0 : 0 ≤ (n0 : Int) := dt; have C0 : n0 < (l0.length : Int) := dt; obtain ⟨O0, P1, L1, Q0, V0⟩ := Qb1 X1.out n0 I0 C0; obtain rfl : P0 = O0 := (by injection P1); replace I0 := eq_true I0; replace C0 := eq_true C0; go_wp2; repeat (go_quiet (fail); try go_wp2)
          go_ret; exact ⟨fr, by repeat (first | exact Qae.refl _ | apply Qae.step)⟩
         rw [if_neg L2] at H; obtain ⟨D2, J2⟩ := ef L2; have H' := am_ H; clear H; have E0 : 0 ≤ (o0 : Int) := dt; have L0 : o0 < (l0.length : Int) := dt; obtain ⟨P0, O1, Z0, Y0, C1⟩ := Qb1 X1.out o0 E0 L0; cases O1; replace E0 := eq_true E0; replace L0 := eq_true L0; have I0 : 0 ≤ (n0 : Int) := dt; have C0 : n0 < (l0.length : Int) := dt; obtain ⟨O0, P1, L1, Q0, V0⟩ := Qb1 X1.out n0 I0 C0; obtain rfl : P0 = O0 := (by injection P1); replace I0 := eq_true I0; replace C0 := eq_true C0; go_wp2; repeat (go_quiet (fail); try go_wp2)
         go_roundg k3
         case measure => have := Y1.out; have := C3.out; have := Z2.out; omega
         case rel => exact ⟨(wrap64 (o0 + 1)), fr, H', ⟨by have := Y1.out; have := C3.out; have := Z2.out; omega⟩, by repeat (first | exact Qae.refl _ | apply Qae.step)⟩
        rw [if_neg c8] at H; have L3 := dF c8; clear c8; have H' := am_ H; clear H; go_wp2; repeat (go_quiet (fail); try go_wp2)
        go_roundg k3
        case measure => have := Y1.out; have := C3.out; have := Z2.out; omega
        case rel => exact ⟨(wrap64 (n0 + 1)), fr, H', ⟨by have := Y1.out; have := C3.out; have := Z2.out; omega⟩, by repeat (first | exact Qae.refl _ | apply Qae.step)⟩
   rw [if_neg c3] at H; have Q2 := dF c3; clear c3; obtain rfl := Option.some.inj H; go_wp2; repeat (go_quiet (fail); try go_wp2)
   go_ret; exact ⟨fr, by repeat (first | exact Qae.refl _ | apply Qae.step)⟩

def Gk.f (a0_0 a0_1 : Int) (o0 n0 : Int) : Option (Int × Int) := (F4.f a0_0 a0_1).bind fun A0 => ((F4.f o0 n0).bind fun u0 => (if A0 = true then (if u0 = true then (some (Int.tmod (wrap64 ((wrap64 (a0_0 + 10007)) - o0)) 10007, Int.tmod (wrap64 ((wrap64 (a0_1 + 10007)) - n0)) 10007)) else (some (0, 0))) else (some (0, 0))))
theorem Gk.calls (a0_0 a0_1 : Int) (I0 L0 : Int) (r1 r2 : Int) (w : World) (h : Gk.f a0_0 a0_1 I0 L0 = some (r1, r2)) :
  Calls Tryz.prog 100 #[.agg #[.int .i64 a0_0, .int .i64 a0_1], .agg #[.int .i64 I0, .int .i64 L0]] w fun e w' => e = .returned (.agg #[.int .i64 r1, .int .i64 r2]) ∧ Below w.heap.size w w' := by
 have C1 := Tryz.underlying28; have HB := am_ (Below.refl w.heap.size w); have H := h; unfold Gk.f at H; clear h; replace H := bi H; obtain ⟨D1, A3, H⟩ := H; try dsimp only at H
 replace H := bi H; obtain ⟨Z0, A4, H⟩ := H; try dsimp only at H
 replace H := ib H; obtain ⟨rfl, H⟩ | ⟨rfl, H⟩ := H
 ·
  replace H := ib H; obtain ⟨rfl, H⟩ | ⟨rfl, H⟩ := H
  ·
   replace H := oi2 H; obtain ⟨rfl, rfl⟩ := H; go_enter Tryz.func100, Tryz.ntmps100
   go_wp2_with (first | (refine bf_ 2 #[.int .i64 a0_0, .int .i64 a0_1] 28 HB ?_; intro Q0 hg w7 hb n0 V0 HB; clear hb hg) | (refine bf_ 3 #[.int .i64 I0, .int .i64 L0] 28 HB ?_; intro U0 hg w8 hb o0 Y0 HB; obtain ⟨A0, M0⟩ := tN n0 hg; replace n0 := tBb n0 hb; clear hb hg) | (refine bf_ 4 #[.int .i64 0, .int .i64 0] 28 HB ?_; intro P0 hg w9 hb u0 X0 HB; obtain ⟨E0, O0⟩ := tN n0 hg; replace n0 := tBb n0 hb; obtain ⟨C0, N0⟩ := tN o0 hg; replace o0 := tBb o0 hb; clear hb hg; have _ := n2 A0; have _ := n2 E0; have _ := bx2 n0) | (refine gl_ (some 8) Tryz.func77 #[.agg #[.int .i64 a0_0, .int .i64 a0_1]] ?_; (with_reducible refine (F4.calls a0_0 a0_1 true _ A3.out).mono ?_); rintro e X1 ⟨rfl, hb⟩; refine ⟨_, rfl, ?_⟩; replace n0 := tBb n0 hb; replace o0 := tBb o0 hb; replace u0 := tBb u0 hb; replace HB := tHb HB hb; (try clear hb); have _ := n2 C0; have _ := bx2 o0) | (refine gl_ (some 10) Tryz.func77 #[.agg #[.int .i64 I0, .int .i64 L0]] ?_; (with_reducible refine (F4.calls I0 L0 true _ A4.out).mono ?_); rintro e w16 ⟨rfl, hb⟩; refine ⟨_, rfl, ?_⟩; replace n0 := tBb n0 hb; replace o0 := tBb o0 hb; replace u0 := tBb u0 hb; replace HB := tHb HB hb; (try clear hb); have _ := bx2 n0; have _ := bx2 o0; have _ := bx2 u0))
   refine bodyPost_ret (results_cell_row rfl _ _ P0 28 #[.int .i64 (Int.tmod (wrap64 ((wrap64 (a0_0 + 10007)) - I0)) 10007), .int .i64 (Int.tmod (wrap64 ((wrap64 (a0_1 + 10007)) - L0)) 10007)] (0, 0) _ rfl (gP u0 rfl) Tryz.underlying28 rfl (by kernel_rfl)) rfl ?_; exact ⟨fe, bh HB⟩
  replace H := oi2 H; obtain ⟨rfl, rfl⟩ := H; go_enter Tryz.func100, Tryz.ntmps100
  go_wp2_with (first | (refine bf_ 2 #[.int .i64 a0_0, .int .i64 a0_1] 28 HB ?_; intro Q0 hg Y1 hb n0 V0 HB; clear hb hg) | (refine bf_ 3 #[.int .i64 I0, .int .i64 L0] 28 HB ?_; intro U0 hg O1 hb o0 Y0 HB; obtain ⟨A0, M0⟩ := tN n0 hg; replace n0 := tBb n0 hb; clear hb hg) | (refine bf_ 4 #[.int .i64 0, .int .i64 0] 28 HB ?_; intro P0 hg C2 hb u0 X0 HB; obtain ⟨E0, O0⟩ := tN n0 hg; replace n0 := tBb n0 hb; obtain ⟨C0, N0⟩ := tN o0 hg; replace o0 := tBb o0 hb; clear hb hg; have _ := n2 A0; have _ := n2 E0; have _ := bx2 n0) | (refine gl_ (some 8) Tryz.func77 #[.agg #[.int .i64 a0_0, .int .i64 a0_1]] ?_; (with_reducible refine (F4.calls a0_0 a0_1 true _ A3.out).mono ?_); rintro e Z1 ⟨rfl, hb⟩; refine ⟨_, rfl, ?_⟩; replace n0 := tBb n0 hb; replace o0 := tBb o0 hb; replace u0 := tBb u0 hb; replace HB := tHb HB hb; (try clear hb); have _ := n2 C0; have _ := bx2 o0) | (refine gl_ (some 10) Tryz.func77 #[.agg #[.int .i64 I0, .int .i64 L0]] ?_; (with_reducible refine (F4.calls I0 L0 false _ A4.out).mono ?_); rintro e U1 ⟨rfl, hb⟩; refine ⟨_, rfl, ?_⟩; replace n0 := tBb n0 hb; replace o0 := tBb o0 hb; replace u0 := tBb u0 hb; replace HB := tHb HB hb; (try clear hb); have _ := bx2 u0))
  refine bodyPost_ret (results_cell_row rfl _ _ P0 28 #[.int .i64 0, .int .i64 0] (0, 0) _ rfl (gP u0 rfl) Tryz.underlying28 rfl (by kernel_rfl)) rfl ?_; exact ⟨fe, bh HB⟩
 replace H := oi2 H; obtain ⟨rfl, rfl⟩ := H; go_enter Tryz.func100, Tryz.ntmps100
 go_wp2_with (first | (refine bf_ 2 #[.int .i64 a0_0, .int .i64 a0_1] 28 HB ?_; intro Q0 hg L1 hb n0 V0 HB; clear hb hg) | (refine bf_ 3 #[.int .i64 I0, .int .i64 L0] 28 HB ?_; intro U0 hg Q1 hb o0 Y0 HB; obtain ⟨A0, M0⟩ := tN n0 hg; replace n0 := tBb n0 hb; clear hb hg) | (refine bf_ 4 #[.int .i64 0, .int .i64 0] 28 HB ?_; intro P0 hg N1 hb u0 X0 HB; obtain ⟨E0, O0⟩ := tN n0 hg; replace n0 := tBb n0 hb; obtain ⟨C0, N0⟩ := tN o0 hg; replace o0 := tBb o0 hb; clear hb hg; have _ := n2 A0; have _ := n2 E0; have _ := bx2 n0) | (refine gl_ (some 8) Tryz.func77 #[.agg #[.int .i64 a0_0, .int .i64 a0_1]] ?_; (with_reducible refine (F4.calls a0_0 a0_1 false _ A3.out).mono ?_); rintro e V1 ⟨rfl, hb⟩; refine ⟨_, rfl, ?_⟩; replace n0 := tBb n0 hb; replace o0 := tBb o0 hb; replace u0 := tBb u0 hb; replace HB := tHb HB hb; (try clear hb); have _ := n2 C0; have _ := bx2 o0) | (refine gl_ (some 10) Tryz.func77 #[.agg #[.int .i64 I0, .int .i64 L0]] ?_; (with_reducible refine (F4.calls I0 L0 Z0 _ A4.out).mono ?_); rintro e P1 ⟨rfl, hb⟩; refine ⟨_, rfl, ?_⟩; replace n0 := tBb n0 hb; replace o0 := tBb o0 hb; replace u0 := tBb u0 hb; replace HB := tHb HB hb; (try clear hb); have _ := bx2 u0))
 refine bodyPost_ret (results_cell_row rfl _ _ P0 28 #[.int .i64 0, .int .i64 0] (0, 0) _ rfl (gP u0 rfl) Tryz.underlying28 rfl (by kernel_rfl)) rfl ?_; exact ⟨fe, bh HB⟩

def Fo.l0 : Nat → Int → Int → Int → Option (Int)
 | 0, _, _, _ => none
 | k + 1, x0, x3, x4 => if x4 > 0 then (if (Int.tmod x4 2) = 1 then (Fo.l0 k (Int.tmod (wrap64 (x0 * x0)) 10007) (Int.tmod (wrap64 (x3 * x0)) 10007) (wrap64 (Int.tdiv x4 2))) else (Fo.l0 k (Int.tmod (wrap64 (x0 * x0)) 10007) x3 (wrap64 (Int.tdiv x4 2)))) else (some x3)
def Fo.f (k : Nat) (a0 : Int) : Option (Int) := Fo.l0 k a0 1 10005
theorem Fo.mono_l : ∀ k, (∀ y0 y1 y2, LeO (Fo.l0 k y0 y1 y2) (Fo.l0 (k + 1) y0 y1 y2))
 | 0 => fun _ _ _ r h => by simp [Fo.l0] at h
 | k + 1 => by
  have n0 := Fo.mono_l k
  ·
   intro y0 y1 y2; unfold Fo.l0; repeat' first | (with_reducible first | exact n0 _ _ _ | exact LeO.refl _ | exact LeO.none _ | refine LeO.ite ?_ ?_ | refine LeO.bind ?_ (fun _ => ?_)) | exact n0 _ _ _ | refine LeO.ite ?_ ?_ | refine LeO.bind ?_ (fun _ => ?_)
theorem Fo.mono : ∀ a0 k, LeO (Fo.f k a0) (Fo.f (k + 1) a0) := by
 intro a0 k; have n0 := Fo.mono_l k; unfold Fo.f; repeat' first | (with_reducible first | exact n0 _ _ _ | exact LeO.refl _ | exact LeO.none _ | refine LeO.ite ?_ ?_ | refine LeO.bind ?_ (fun _ => ?_)) | exact n0 _ _ _ | refine LeO.ite ?_ ?_ | refine LeO.bind ?_ (fun _ => ?_)
theorem Fo.calls (k : Nat) (a0 r : Int) (w : World) (h : Fo.f k a0 = some r) :
  Calls Tryz.prog 113 #[.int .i64 a0] w fun e w' => e = .returned (.int .i64 r) ∧ Qae w w' := by
 have H := h; unfold Fo.f at H; clear h; have H' := am_ H; clear H; go_enter Tryz.func113, Tryz.ntmps113; go_wp2
 go_loopg [0, 3, 4] k (fun kq v0 v3 v4 w' => ∃ (o0 : Int) (u0 : Int) (n0 : Int), v0 = .int .i64 o0 ∧ v3 = .int .i64 u0 ∧ v4 = .int .i64 n0 ∧ Asc (Fo.l0 kq o0 u0 n0 = some r) ∧ Asc (kq ≤ k) ∧ Qae w w')
 case atStart => exact ⟨(a0), (1), (10005), fr, fr, fr, H', ⟨Nat.le_refl _⟩, by repeat (first | exact Qae.refl _ | apply Qae.step)⟩
 case round =>
  clear H'; obtain ⟨o0, u0, n0, rfl, rfl, rfl, HA, A0, ⟨m1, rfl⟩⟩ := hrel
  cases gk with
  | zero => exact absurd HA.out (by simp [Fo.l0])
  | succ k1 =>
   have H := HA.out; clear HA; simp only [Fo.l0] at H
   by_cases c2 : n0 > 0
   ·
    rw [if_pos c2] at H; have E0 : decide (0 < n0) = true := dT c2; clear c2
    by_cases c3 : (Int.tmod n0 2) = 1
    ·
     rw [if_pos c3] at H; obtain ⟨I0, C0⟩ := et c3; clear c3; have H' := am_ H; clear H; go_wp2; go_roundg k1
     case measure => have := A0.out; omega
     case rel => exact ⟨(Int.tmod (wrap64 (o0 * o0)) 10007), (Int.tmod (wrap64 (u0 * o0)) 10007), (wrap64 (Int.tdiv n0 2)), fr, fr, fr, H', kS A0, by repeat (first | exact Qae.refl _ | apply Qae.step)⟩
    rw [if_neg c3] at H; obtain ⟨I0, C0⟩ := ef c3; have H' := am_ H; clear H; go_wp2; go_roundg k1
    case measure => have := A0.out; omega
    case rel => exact ⟨(Int.tmod (wrap64 (o0 * o0)) 10007), (u0), (wrap64 (Int.tdiv n0 2)), fr, fr, fr, H', kS A0, by repeat (first | exact Qae.refl _ | apply Qae.step)⟩
   rw [if_neg c2] at H; have E0 : decide (0 < n0) = false := dF c2; clear c2; obtain rfl := Option.some.inj H; go_wp2; go_ret; exact ⟨fr, by repeat (first | exact Qae.refl _ | apply Qae.step)⟩

def Gx.f (a0_0 a0_1 : Int) : Option (Int) := (F4.f a0_0 a0_1).bind fun n0 => (if n0 = true then (some (Int.tmod (wrap64 ((wrap64 (a0_0 * a0_0)) + (wrap64 (a0_1 * a0_1)))) 10007)) else (some 0))
theorem Gx.calls (a0_0 a0_1 r : Int) (w : World) (h : Gx.f a0_0 a0_1 = some r) :
  Calls Tryz.prog 114 #[.agg #[.int .i64 a0_0, .int .i64 a0_1]] w fun e w' => e = .returned (.int .i64 r) ∧ Below w.heap.size w w' := by
 have C0 := Tryz.underlying28; have HB := am_ (Below.refl w.heap.size w); have H := h; unfold Gx.f at H; clear h; replace H := bi H; obtain ⟨A0, A2, H⟩ := H; try dsimp only at H
 replace H := ib H; obtain ⟨rfl, H⟩ | ⟨rfl, H⟩ := H
 ·
  obtain rfl := Option.some.inj H; go_enter Tryz.func114, Tryz.ntmps114
  go_wp2_with (first | (refine bf_ 1 #[.int .i64 a0_0, .int .i64 a0_1] 28 HB ?_; intro o0 hg w4 hb n0 u0 HB; clear hb hg; have _ := bx2 n0) | (refine gl_ (some 5) Tryz.func77 #[.agg #[.int .i64 a0_0, .int .i64 a0_1]] ?_; (with_reducible refine (F4.calls a0_0 a0_1 true _ A2.out).mono ?_); rintro e w6 ⟨rfl, hb⟩; refine ⟨_, rfl, ?_⟩; replace n0 := tBb n0 hb; replace HB := tHb HB hb; (try clear hb); have _ := bx2 n0))
  go_ret; exact ⟨fe, bh HB⟩
 obtain rfl := Option.some.inj H; go_enter Tryz.func114, Tryz.ntmps114
 go_wp2_with (first | (refine bf_ 1 #[.int .i64 a0_0, .int .i64 a0_1] 28 HB ?_; intro o0 hg w8 hb n0 u0 HB; clear hb hg; have _ := bx2 n0) | (refine gl_ (some 5) Tryz.func77 #[.agg #[.int .i64 a0_0, .int .i64 a0_1]] ?_; (with_reducible refine (F4.calls a0_0 a0_1 false _ A2.out).mono ?_); rintro e E0 ⟨rfl, hb⟩; refine ⟨_, rfl, ?_⟩; replace n0 := tBb n0 hb; replace HB := tHb HB hb; (try clear hb)))
 go_ret; exact ⟨fe, bh HB⟩
end Go.Proofs.YtopijobdblfhoaaGreat.PTuskChains
