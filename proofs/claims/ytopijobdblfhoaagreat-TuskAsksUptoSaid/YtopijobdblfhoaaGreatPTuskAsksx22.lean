-- written by a program of this session (pp.py), out of the kit's print and this session's contracts
import Derived.Test.YtopijobdblfhoaaGreatPTuskAsksx0
import Derived.Test.YtopijobdblfhoaaGreatVTuskAsksPi
namespace Go.Proofs.YtopijobdblfhoaaGreat.PTuskAsks
open Go.RowKit Go.Proofs.YtopijobdblfhoaaGreatW.PrintWords Go.Proofs.YtopijobdblfhoaaGreatW.PrintLast Go.Proofs.YtopijobdblfhoaaGreatW.PrintMore
set_option linter.unusedVariables false
set_option linter.unusedSimpArgs false

def Gn.f (a0 : Int) : Option (Int) := if a0 < 1 then (some 0) else (if (Int.tmod a0 3) = 0 then (some (wrap64 (Int.tdiv a0 3))) else (some (wrap64 ((wrap64 (Int.tdiv a0 3)) + 1))))
set_option maxHeartbeats 8000000 in
set_option maxRecDepth 100000 in
theorem Gn.calls (a0 : Int) (r : Int) (w : World) (h : Gn.f a0 = some r) :
  Calls Tryz.prog 38 #[.int .i64 a0] w fun e w' => e = .returned (.int .i64 r) ∧ Drawn0 w w' := by
 have H : (if a0 < 1 then (some 0) else (if (Int.tmod a0 3) = 0 then (some (wrap64 (Int.tdiv a0 3))) else (some (wrap64 ((wrap64 (Int.tdiv a0 3)) + 1))))) = some r := h
 clear h
 by_cases c2 : a0 < 1
 ·
  rw [if_pos c2] at H
  have m0 : decide (a0 < 1) = true := decide_eq_true c2
  clear c2
  obtain rfl := Option.some.inj H
  go_enter Tryz.func38, Tryz.ntmps38
  go_wp2
  go_ret
  exact ⟨fr, by repeat (first | exact Drawn0.refl _ | apply Drawn0.step)⟩
 rw [if_neg c2] at H
 have m0 : decide (a0 < 1) = false := decide_eq_false c2
 clear c2
 by_cases c3 : (Int.tmod a0 3) = 0
 ·
  rw [if_pos c3] at H
  have o0 : ((Int.tmod a0 3) == 0) = true := beq_iff_eq.mpr c3
  have n0 : ((Int.tmod a0 3) != 0) = false := bne_eq_false_iff_eq.mpr c3
  clear c3
  obtain rfl := Option.some.inj H
  go_enter Tryz.func38, Tryz.ntmps38
  go_wp2
  go_ret
  exact ⟨fr, by repeat (first | exact Drawn0.refl _ | apply Drawn0.step)⟩
 rw [if_neg c3] at H
 have o0 : ((Int.tmod a0 3) == 0) = false := beq_eq_false_iff_ne.mpr c3
 have n0 : ((Int.tmod a0 3) != 0) = true := bne_iff_ne.mpr c3
 obtain rfl := Option.some.inj H
 go_enter Tryz.func38, Tryz.ntmps38
 go_wp2
 go_ret
 exact ⟨fr, by repeat (first | exact Drawn0.refl _ | apply Drawn0.step)⟩

def G0.l0 : Nat → Int → Int → Int → Int → List (S32) → Option (Int)
 | 0, _, _, _, _, _ => none
 | k + 1, x3, x4, m0, n0, a0 => if x4 < (a0.length : Int) then (if 0 ≤ x4 then ((Gn.f ((rd_T32 a0 x4).f1.f1)).bind fun o0 => (if o0 > x3 then (G0.l0 k o0 (wrap64 (x4 + 1)) m0 n0 a0) else (G0.l0 k x3 (wrap64 (x4 + 1)) m0 n0 a0))) else (none)) else (some x3)
def G0.f (k : Nat) (a0_0 : Int) (a0_1 : Int) (l0_2 : List (S32)) : Option (Int) := G0.l0 k 0 0 a0_0 a0_1 l0_2
set_option maxHeartbeats 8000000 in
set_option maxRecDepth 100000 in
theorem G0.calls (k : Nat) (a0_0 : Int) (a0_1 : Int) (A0_2 : Option Addr) (c0_2 : Nat) (l0_2 : List (S32)) (r : Int) (w : World) (hr0_2 : Kd.C k32 w A0_2 l0_2.length l0_2) (hc0_2 : l0_2.length ≤ c0_2) (h : G0.f k a0_0 a0_1 l0_2 = some r) :
  Calls Tryz.prog 17 #[.agg #[.int .i64 a0_0, .int .i64 a0_1, .slice A0_2 l0_2.length c0_2]] w fun e w' => e = .returned (.int .i64 r) ∧ Below w.heap.size w w' := by
 have D2 := Tryz.underlying24
 have Z0 := am_ hr0_2
 have X1 := am_ hc0_2
 clear hr0_2 hc0_2
 have HB := am_ (Below.refl w.heap.size w)
 have H : (G0.l0 k 0 0 a0_0 a0_1 l0_2) = some r := h
 clear h
 have H' := am_ H
 clear H
 go_enter Tryz.func17, Tryz.ntmps17
 go_wp2_with (first | ((with_reducible refine gd_ 1 ?_); refine be_ 1 #[.int .i64 a0_0, .int .i64 a0_1, .slice A0_2 l0_2.length c0_2] 24 ?_; intro O1 hg w2 hbox hb; have N0 := am_ hbox; have Y1 := tG HB hg; have i2 := tG HB hg; replace HB := tHb HB hb; clear hb hbox hg))
 go_loopg [3, 4] k (fun kq v3 v4 w' => ∃ (Q0 : Int) (a0 : Int), v3 = .int .i64 Q0 ∧ v4 = .int .i64 a0 ∧ Asc (G0.l0 kq Q0 a0 a0_0 a0_1 l0_2 = some r) ∧ Asc (kq ≤ k) ∧ Asc (w'.heap[O1]? = some (.cells #[.int .i64 a0_0, .int .i64 a0_1, (.slice A0_2 l0_2.length c0_2)] 24 (0, 0))) ∧ Asc (Below w.heap.size w w'))
 case atStart => exact ⟨(0), (0), fr, fr, H', ⟨Nat.le_refl _⟩, ⟨gB N0⟩, ⟨bh HB⟩⟩
 case round =>
  clear H'
  obtain ⟨Q0, a0, rfl, rfl, HA, Q1, N0, HB⟩ := hrel
  cases gk with
  | zero => exact absurd HA.out (by simp [G0.l0])
  | succ k1 =>
   have H := HA.out
   clear HA
   simp only [G0.l0] at H
   by_cases c3 : a0 < (l0_2.length : Int)
   ·
    rw [if_pos c3] at H
    have U1 : decide (a0 < (l0_2.length : Int)) = true := decide_eq_true c3
    clear c3
    revert H
    refine gi (fun C2 H => ?_)
    replace H := Option.bind_eq_some_iff.mp H
    obtain ⟨U0, Z1, H⟩ := H
    try dsimp only at H
    have A5 := am_ Z1
    clear Z1
    by_cases c6 : U0 > Q0
    ·
     rw [if_pos c6] at H
     have V1 : decide (Q0 < U0) = true := decide_eq_true c6
     clear c6
     have H' := am_ H
     clear H
     obtain ⟨_, _, _, _, _, _⟩ := bx3 N0
     have P0 : 0 ≤ (a0 : Int) := dt
     have O0 : a0 < (l0_2.length : Int) := dt
     obtain ⟨P1, C1, i1, N1, D1, L1, z0, A0, C0, o0, I0, E0, L0, u0, m0, n0, M0⟩ := at_T32 Z0.out a0 P0 O0
     cases L1
     replace z0 := ce HB z0
     replace A0 := ce HB A0
     replace C0 := ce HB C0
     replace o0 := ce HB o0
     replace I0 := ce HB I0
     replace E0 := ce HB E0
     replace L0 := ce HB L0
     have W0 := am_ m0
     have X0 := am_ u0
     clear m0 u0
     have Y0 := am_ M0
     have V0 := am_ n0
     clear M0 n0
     replace P0 := eq_true P0
     replace O0 := eq_true O0
     go_wp2_with (first | ((with_reducible refine gate_callee (f := 38) rfl ?_); refine gl_ (some 20) Tryz.func38 #[.int .i64 ((rd_T32 l0_2 a0).f1.f1)] ?_; (with_reducible refine (Gn.calls ((rd_T32 l0_2 a0).f1.f1) U0 _ A5.out).mono ?_); rintro e w' ⟨rfl, ⟨nd, rfl⟩⟩; refine ⟨_, rfl, ?_⟩))
     go_roundg k1
     case measure => have := Q1.out; omega
     case rel => exact ⟨(U0), (wrap64 (a0 + 1)), fr, fr, H', kS Q1, ⟨gB N0⟩, ⟨bh HB⟩⟩
    rw [if_neg c6] at H
    have V1 : decide (Q0 < U0) = false := decide_eq_false c6
    clear c6
    have H' := am_ H
    clear H
    obtain ⟨_, _, _, _, _, _⟩ := bx3 N0
    have P0 : 0 ≤ (a0 : Int) := dt
    have O0 : a0 < (l0_2.length : Int) := dt
    obtain ⟨P1, C1, i1, N1, D1, L1, z0, A0, C0, o0, I0, E0, L0, u0, m0, n0, M0⟩ := at_T32 Z0.out a0 P0 O0
    cases L1
    replace z0 := ce HB z0
    replace A0 := ce HB A0
    replace C0 := ce HB C0
    replace o0 := ce HB o0
    replace I0 := ce HB I0
    replace E0 := ce HB E0
    replace L0 := ce HB L0
    have W0 := am_ m0
    have X0 := am_ u0
    clear m0 u0
    have Y0 := am_ M0
    have V0 := am_ n0
    clear M0 n0
    replace P0 := eq_true P0
    replace O0 := eq_true O0
    go_wp2_with (first | ((with_reducible refine gate_callee (f := 38) rfl ?_); refine gl_ (some 20) Tryz.func38 #[.int .i64 ((rd_T32 l0_2 a0).f1.f1)] ?_; (with_reducible refine (Gn.calls ((rd_T32 l0_2 a0).f1.f1) U0 _ A5.out).mono ?_); rintro e w' ⟨rfl, ⟨nd, rfl⟩⟩; refine ⟨_, rfl, ?_⟩))
    go_roundg k1
    case measure => have := Q1.out; omega
    case rel => exact ⟨(Q0), (wrap64 (a0 + 1)), fr, fr, H', kS Q1, ⟨gB N0⟩, ⟨bh HB⟩⟩
   rw [if_neg c3] at H
   have U1 : decide (a0 < (l0_2.length : Int)) = false := decide_eq_false c3
   clear c3
   obtain rfl := Option.some.inj H
   obtain ⟨_, _, _, _, _, _⟩ := bx3 N0
   go_wp2
   go_ret
   exact ⟨fe, bh HB⟩

end Go.Proofs.YtopijobdblfhoaaGreat.PTuskAsks
