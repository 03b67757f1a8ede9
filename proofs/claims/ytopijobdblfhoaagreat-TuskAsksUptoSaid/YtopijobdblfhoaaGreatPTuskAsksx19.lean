-- written by a program of this session (pp.py), out of the kit's print and this session's contracts
import Derived.Test.YtopijobdblfhoaaGreatPTuskAsksx0
import Derived.Test.YtopijobdblfhoaaGreatPTuskAsksx11
import Derived.Test.YtopijobdblfhoaaGreatPTuskAsksx13
import Derived.Test.YtopijobdblfhoaaGreatPTuskAsksx18
import Derived.Test.YtopijobdblfhoaaGreatVTuskAsksPi
namespace Go.Proofs.YtopijobdblfhoaaGreat.PTuskAsks
open Go.RowKit Go.Proofs.YtopijobdblfhoaaGreatW.PrintWords Go.Proofs.YtopijobdblfhoaaGreatW.PrintLast Go.Proofs.YtopijobdblfhoaaGreatW.PrintMore
set_option linter.unusedVariables false
set_option linter.unusedSimpArgs false

mutual
def Fe.l0 : Nat → List (S32) → Int → Int → ByteArray → Int → Int → List (S107) → List ByteArray → Int → Int → Option (Int)
 | 0, _, _, _, _, _, _, _, _, _, _ => none
 | k + 1, x5, x6, x7, o0, u0, A0, z0, a0, n0, m0 => if x7 < (x5.length : Int) then (Fe.l1 k x5 x6 x7 false 0 o0 u0 A0 z0 a0 n0 m0) else (some x6)
def Fe.l1 : Nat → List (S32) → Int → Int → Bool → Int → ByteArray → Int → Int → List (S107) → List ByteArray → Int → Int → Option (Int)
 | 0, _, _, _, _, _, _, _, _, _, _, _, _ => none
 | k + 1, x5, x6, x7, x8, x9, a0, u0, A0, z0, m0, o0, n0 => if 0 ≤ x7 then (if x7 < (x5.length : Int) then (if x9 < (((rd_T32 x5 x7).f1.f3).length : Int) then (if x8 = true then (Fe.l1 k x5 x6 x7 true (wrap64 (x9 + 1)) a0 u0 A0 z0 m0 o0 n0) else (if 0 ≤ x9 then (Fe.l1 k x5 x6 x7 ((rdOf ByteArray.empty ((rd_T32 x5 x7).f1.f3) x9).toList == a0.toList) (wrap64 (x9 + 1)) a0 u0 A0 z0 m0 o0 n0) else (none))) else (if x8 = true then (Fe.l0 k x5 (wrap64 (x6 + 1)) (wrap64 (x7 + 1)) a0 u0 A0 z0 m0 o0 n0) else (Fe.l0 k x5 x6 (wrap64 (x7 + 1)) a0 u0 A0 z0 m0 o0 n0))) else (none)) else (none)
end
def Fe.f (k : Nat) (a0_0 : Int) (a0_1 : Int) (l0_2 : List (S32)) (o0 : ByteArray) (n0 : Int) (a0 : Int) (z0 : List (S107)) (A0 : List ByteArray) (C0 : Int) (m0 : Int) : Option (Int) := (F2.f k a0_0 a0_1 l0_2 (wrap64 (a0 + 1))).bind fun u0 => (Fe.l0 k u0 0 0 o0 n0 a0 z0 A0 C0 m0)
set_option maxHeartbeats 8000000 in
set_option maxRecDepth 100000 in
theorem Fe.calls (k : Nat) (a0_0 : Int) (a0_1 : Int) (A0_2 : Option Addr) (c0_2 : Nat) (l0_2 : List (S32)) (V1 : ByteArray) (X1 : Int) (i1 : Int) (a4 : Option Addr) (N3 : Nat) (O1 : List (S107)) (Q3 : Option Addr) (Z3 : Nat) (L1 : List ByteArray) (Y1 : Int) (Z1 : Int) (r : Int) (w : World) (hr0_2 : Kd.C k32 w A0_2 l0_2.length l0_2) (hc0_2 : l0_2.length ≤ c0_2) (S4 : Kd.C k107 w a4 O1.length O1) (Y4 : O1.length ≤ N3) (U4 : Kd.C Kd.string w Q3 L1.length L1) (R4 : L1.length ≤ Z3) (h : Fe.f k a0_0 a0_1 l0_2 V1 X1 i1 O1 L1 Y1 Z1 = some r) :
  Calls Tryz.prog 15 #[.agg #[.int .i64 a0_0, .int .i64 a0_1, .slice A0_2 l0_2.length c0_2], .agg #[.string V1, .int .i64 X1, .int .i64 i1, .slice a4 O1.length N3, .slice Q3 L1.length Z3, .int .i64 Y1, .int .i64 Z1]] w fun e w' => e = .returned (.int .i64 r) ∧ Below w.heap.size w w' := by
 have Z6 := Tryz.underlying24
 have a7 := Tryz.underlying32
 have K4 := am_ hr0_2
 have D4 := am_ hc0_2
 clear hr0_2 hc0_2
 have V6 := am_ S4
 have Q6 := am_ Y4
 clear S4 Y4
 have S6 := am_ U4
 have U6 := am_ R4
 clear U4 R4
 have HB := am_ (Below.refl w.heap.size w)
 have H : ((F2.f k a0_0 a0_1 l0_2 (wrap64 (i1 + 1))).bind fun I0 => (Fe.l0 k I0 0 0 V1 X1 i1 O1 L1 Y1 Z1)) = some r := h
 clear h
 replace H := Option.bind_eq_some_iff.mp H
 obtain ⟨I0, X6, H⟩ := H
 try dsimp only at H
 have A3 := am_ X6
 clear X6
 have H' := am_ H
 clear H
 go_enter Tryz.func15, Tryz.ntmps15
 go_wp2_with (first | ((with_reducible refine gd_ 2 ?_); refine be_ 2 #[.int .i64 a0_0, .int .i64 a0_1, .slice A0_2 l0_2.length c0_2] 24 ?_; intro C1 hg w4 hbox hb; have n0 := am_ hbox; have J3 := tG HB hg; have O4 := tG HB hg; replace HB := tHb HB hb; clear hb hbox hg) | ((with_reducible refine gd_ 3 ?_); refine be_ 3 #[.string V1, .int .i64 X1, .int .i64 i1, .slice a4 O1.length N3, .slice Q3 L1.length Z3, .int .i64 Y1, .int .i64 Z1] 32 ?_; intro D1 hg w5 hbox hb; have E0 := am_ hbox; have I3 := tG HB hg; have V4 := tG HB hg; replace HB := tHb HB hb; obtain ⟨V0, N1⟩ := tN n0 hg; replace n0 := tBb n0 hb; clear hb hbox hg; obtain ⟨_, _⟩ := n2 V0; obtain ⟨l5, P5, i5, k5, N5, J5⟩ := bx3 n0; obtain ⟨a5, L5, D5, c5, A5, I5, E5, b5, Z4, m5, M5, K5, O5, R5⟩ := bx7 E0) | (go_at_call 36; (with_reducible refine (F2.calls k a0_0 a0_1 (fun k_ => k_ < w.heap.size) _ _ l0_2 (wrap64 (i1 + 1)) I0 _ ?L3 A3.out).mono ?_); (case L3 => exact Kd.V_mk D4.out (Kd.F_below (Kd.C_F k32_heap K4.out) (bh HB))); rintro e w9 ⟨C5, rfl, P4, hb⟩; have E4 := loN (fun k_ => k_ ≠ C1 ∧ k_ ≠ D1) P4 (fun k_ hk_ => ⟨oe J3 n0 hk_, oe I3 E0 hk_⟩) HB; replace n0 := tBb n0 hb; replace E0 := tBb E0 hb; replace HB := tHb HB hb; (try clear hb P4)))
 (try simp only [Act.put, List.setIfInBounds_toArray, List.set_cons_zero, List.set_cons_succ])
 repeat (go_quiet (first | ((with_reducible refine gd_ 2 ?_); refine be_ 2 #[.int .i64 a0_0, .int .i64 a0_1, .slice A0_2 l0_2.length c0_2] 24 ?_; intro C1 hg w4 hbox hb; have n0 := am_ hbox; have J3 := tG HB hg; have O4 := tG HB hg; replace HB := tHb HB hb; clear hb hbox hg) | ((with_reducible refine gd_ 3 ?_); refine be_ 3 #[.string V1, .int .i64 X1, .int .i64 i1, .slice a4 O1.length N3, .slice Q3 L1.length Z3, .int .i64 Y1, .int .i64 Z1] 32 ?_; intro D1 hg w5 hbox hb; have E0 := am_ hbox; have I3 := tG HB hg; have V4 := tG HB hg; replace HB := tHb HB hb; obtain ⟨V0, N1⟩ := tN n0 hg; replace n0 := tBb n0 hb; clear hb hbox hg; obtain ⟨_, _⟩ := n2 V0; obtain ⟨l5, P5, i5, k5, N5, J5⟩ := bx3 n0; obtain ⟨a5, L5, D5, c5, A5, I5, E5, b5, Z4, m5, M5, K5, O5, R5⟩ := bx7 E0) | (go_at_call 36; (with_reducible refine (F2.calls k a0_0 a0_1 (fun k_ => k_ < w.heap.size) _ _ l0_2 (wrap64 (i1 + 1)) I0 _ ?L3 A3.out).mono ?_); (case L3 => exact Kd.V_mk D4.out (Kd.F_below (Kd.C_F k32_heap K4.out) (bh HB))); rintro e w9 ⟨C5, rfl, P4, hb⟩; have E4 := loN (fun k_ => k_ ≠ C1 ∧ k_ ≠ D1) P4 (fun k_ hk_ => ⟨oe J3 n0 hk_, oe I3 E0 hk_⟩) HB; replace n0 := tBb n0 hb; replace E0 := tBb E0 hb; replace HB := tHb HB hb; (try clear hb P4))); try go_wp2_with (first | ((with_reducible refine gd_ 2 ?_); refine be_ 2 #[.int .i64 a0_0, .int .i64 a0_1, .slice A0_2 l0_2.length c0_2] 24 ?_; intro C1 hg w4 hbox hb; have n0 := am_ hbox; have J3 := tG HB hg; have O4 := tG HB hg; replace HB := tHb HB hb; clear hb hbox hg) | ((with_reducible refine gd_ 3 ?_); refine be_ 3 #[.string V1, .int .i64 X1, .int .i64 i1, .slice a4 O1.length N3, .slice Q3 L1.length Z3, .int .i64 Y1, .int .i64 Z1] 32 ?_; intro D1 hg w5 hbox hb; have E0 := am_ hbox; have I3 := tG HB hg; have V4 := tG HB hg; replace HB := tHb HB hb; obtain ⟨V0, N1⟩ := tN n0 hg; replace n0 := tBb n0 hb; clear hb hbox hg; obtain ⟨_, _⟩ := n2 V0; obtain ⟨l5, P5, i5, k5, N5, J5⟩ := bx3 n0; obtain ⟨a5, L5, D5, c5, A5, I5, E5, b5, Z4, m5, M5, K5, O5, R5⟩ := bx7 E0) | (go_at_call 36; (with_reducible refine (F2.calls k a0_0 a0_1 (fun k_ => k_ < w.heap.size) _ _ l0_2 (wrap64 (i1 + 1)) I0 _ ?L3 A3.out).mono ?_); (case L3 => exact Kd.V_mk D4.out (Kd.F_below (Kd.C_F k32_heap K4.out) (bh HB))); rintro e w9 ⟨C5, rfl, P4, hb⟩; have E4 := loN (fun k_ => k_ ≠ C1 ∧ k_ ≠ D1) P4 (fun k_ hk_ => ⟨oe J3 n0 hk_, oe I3 E0 hk_⟩) HB; replace n0 := tBb n0 hb; replace E0 := tBb E0 hb; replace HB := tHb HB hb; (try clear hb P4))))
 go_loopg [6, 7] k (fun kq v6 v7 w' => ∃ (C4 : Int) (o0 : Int), v6 = .int .i64 C4 ∧ v7 = .int .i64 o0 ∧ Asc (Fe.l0 kq I0 C4 o0 V1 X1 i1 O1 L1 Y1 Z1 = some r) ∧ Asc (kq ≤ k) ∧ Asc (Kd.N k32 32 w' w.heap.size (fun k_ => k_ ≠ C1 ∧ k_ ≠ D1) C5 I0) ∧ Asc (w'.heap[C1]? = some (.cells #[.int .i64 a0_0, .int .i64 a0_1, (.slice A0_2 l0_2.length c0_2)] 24 (0, 0))) ∧ Asc (w'.heap[D1]? = some (.cells #[.string V1, .int .i64 X1, .int .i64 i1, (.slice a4 O1.length N3), (.slice Q3 L1.length Z3), .int .i64 Y1, .int .i64 Z1] 32 (0, 0))) ∧ Asc (Below w.heap.size w w'))
 case atStart => exact ⟨(0), (0), fr, fr, H', ⟨Nat.le_refl _⟩, ⟨hN E4⟩, ⟨gB n0⟩, ⟨gB E0⟩, ⟨bh HB⟩⟩
 case round =>
  clear H'
  try clear l5 P5 i5 a5 L5 D5 c5 A5 I5 E5 k5 N5 J5 b5 Z4 m5 M5 K5 O5 R5
  obtain ⟨C4, o0, rfl, rfl, HA, X4, HO_5, n0, E0, HB⟩ := hrel
  cases gk with
  | zero => exact absurd HA.out (by simp [Fe.l0])
  | succ k1 =>
   have H := HA.out
   clear HA
   simp only [Fe.l0] at H
   by_cases c10 : o0 < (I0.length : Int)
   ·
    rw [if_pos c10] at H
    have Q4 : decide (o0 < (I0.length : Int)) = true := decide_eq_true c10
    clear c10
    have H' := am_ H
    clear H
    obtain ⟨L6, z6, J6⟩ := Kd.N_slice HO_5.out
    subst J6
    go_wp2
    repeat (go_quiet (fail); try go_wp2)
    go_loopg [8, 9] k1 (fun kq v8 v9 w' => ∃ (I4 : Bool) (P1 : Int), v8 = .bool I4 ∧ v9 = .int .i64 P1 ∧ Asc (Fe.l1 kq I0 C4 o0 I4 P1 V1 X1 i1 O1 L1 Y1 Z1 = some r) ∧ Asc (kq ≤ k1) ∧ Asc (Kd.N k32 32 w' w.heap.size (fun k_ => k_ ≠ C1 ∧ k_ ≠ D1) (.slice L6 I0.length z6) I0) ∧ Asc (w'.heap[C1]? = some (.cells #[.int .i64 a0_0, .int .i64 a0_1, (.slice A0_2 l0_2.length c0_2)] 24 (0, 0))) ∧ Asc (w'.heap[D1]? = some (.cells #[.string V1, .int .i64 X1, .int .i64 i1, (.slice a4 O1.length N3), (.slice Q3 L1.length Z3), .int .i64 Y1, .int .i64 Z1] 32 (0, 0))) ∧ Asc (Below w.heap.size w w'))
    case atStart => exact ⟨(false), (0), fr, fr, H', ⟨Nat.le_refl _⟩, ⟨hN HO_5⟩, ⟨gB n0⟩, ⟨gB E0⟩, ⟨bh HB⟩⟩
    case round =>
     clear H'
     try clear Q4
     obtain ⟨I4, P1, rfl, rfl, HA, W4, HO_5, n0, E0, HB⟩ := hrel
     cases gk with
     | zero => exact absurd HA.out (by simp [Fe.l1])
     | succ k2 =>
      have H := HA.out
      clear HA
      simp only [Fe.l1] at H
      revert H
      refine gi (fun W6 H => ?_)
      revert H
      refine gi (fun P6 H => ?_)
      by_cases S5 : P1 < (((rd_T32 I0 o0).f1.f3).length : Int)
      ·
       rw [if_pos S5] at H
       have V5 : decide (P1 < (((rd_T32 I0 o0).f1.f3).length : Int)) = true := decide_eq_true S5
       clear S5
       by_cases r6 : I4 = true
       ·
        subst r6
        rw [if_pos rfl] at H
        have H' := am_ H
        clear H
        have X0 : 0 ≤ (o0 : Int) := dt
        have W0 : o0 < (I0.length : Int) := dt
        obtain ⟨k4, W3, U3, X3, Y3, S3, L2, k3, D3, Q0, U0, C2, i3, O0, M0, P0, N0⟩ := at_T32 (Kd.N_reads' HO_5.out).2.2 o0 X0 W0
        cases S3
        obtain ⟨J4, Z0, Y0, L0⟩ := Kd.N_get HO_5.out z32 o0 X0 (by first | exact W0 | exact dt | (have e_ := (Kd.N_reads' HO_5.out).1; omega))
        obtain ⟨i2, u3, N2, Q2, rfl, u0, C0, A0, z0⟩ := k32_openF Y0
        have a0 := L0 3 _ rfl
        rw [add_field _ _ 3 (by omega)] at a0
        replace a0 := Option.some.inj (a0.symm.trans Q0)
        injection a0 with hva_ hvn_ hvc_
        rw [hva_] at C0
        rw [hvc_] at u0
        have a3 := am_ (show Kd.V k107 107 _ w.heap.size _ _ ((rd_T32 I0 o0).f1.f2) from Kd.V_mk u0 C0)
        clear hva_ hvn_ hvc_ C0 u0
        have m0 := L0 4 _ rfl
        rw [add_field _ _ 4 (by omega)] at m0
        replace m0 := Option.some.inj (m0.symm.trans U0)
        injection m0 with hva_ hvn_ hvc_
        rw [hva_] at z0
        rw [hvc_] at A0
        have V2 := am_ (show Kd.V Kd.string 9 _ w.heap.size _ _ ((rd_T32 I0 o0).f1.f3) from Kd.V_mk A0 z0)
        clear hva_ hvn_ hvc_ z0 A0 L0 Z0
        have m3 := am_ M0
        have Z2 := am_ O0
        clear M0 O0
        have D2 := am_ N0
        have C3 := am_ P0
        clear N0 P0
        replace X0 := eq_true X0
        replace W0 := eq_true W0
        go_wp2
        repeat (go_quiet (fail); try go_wp2)
        go_roundg k2
        case measure => have := X4.out; have := W4.out; omega
        case rel => exact ⟨(true), (wrap64 (P1 + 1)), fr, fr, H', ⟨by have := X4.out; have := W4.out; omega⟩, ⟨hN HO_5⟩, ⟨gB n0⟩, ⟨gB E0⟩, ⟨bh HB⟩⟩
       replace r6 := Bool.eq_false_iff.mpr r6
       subst r6
       rw [if_neg (show ¬ (false = true) by decide)] at H
       revert H
       refine gi (fun R6 H => ?_)
       have H' := am_ H
       clear H
       have X0 : 0 ≤ (o0 : Int) := dt
       have W0 : o0 < (I0.length : Int) := dt
       obtain ⟨k4, W3, U3, X3, Y3, S3, L2, k3, D3, Q0, U0, C2, i3, O0, M0, P0, N0⟩ := at_T32 (Kd.N_reads' HO_5.out).2.2 o0 X0 W0
       cases S3
       obtain ⟨J4, Z0, Y0, L0⟩ := Kd.N_get HO_5.out z32 o0 X0 (by first | exact W0 | exact dt | (have e_ := (Kd.N_reads' HO_5.out).1; omega))
       obtain ⟨i2, u3, N2, Q2, rfl, u0, C0, A0, z0⟩ := k32_openF Y0
       have a0 := L0 3 _ rfl
       rw [add_field _ _ 3 (by omega)] at a0
       replace a0 := Option.some.inj (a0.symm.trans Q0)
       injection a0 with hva_ hvn_ hvc_
       rw [hva_] at C0
       rw [hvc_] at u0
       have a3 := am_ (show Kd.V k107 107 _ w.heap.size _ _ ((rd_T32 I0 o0).f1.f2) from Kd.V_mk u0 C0)
       clear hva_ hvn_ hvc_ C0 u0
       have m0 := L0 4 _ rfl
       rw [add_field _ _ 4 (by omega)] at m0
       replace m0 := Option.some.inj (m0.symm.trans U0)
       injection m0 with hva_ hvn_ hvc_
       rw [hva_] at z0
       rw [hvc_] at A0
       have V2 := am_ (show Kd.V Kd.string 9 _ w.heap.size _ _ ((rd_T32 I0 o0).f1.f3) from Kd.V_mk A0 z0)
       clear hva_ hvn_ hvc_ z0 A0 L0 Z0
       have m3 := am_ M0
       have Z2 := am_ O0
       clear M0 O0
       have D2 := am_ N0
       have C3 := am_ P0
       clear N0 P0
       replace X0 := eq_true X0
       replace W0 := eq_true W0
       have M4 : 0 ≤ (o0 : Int) := dt
       have N4 : o0 < (I0.length : Int) := dt
       obtain ⟨U5, I6, M6, A6, E6, C6, o6, l6, m6, j4, i4, p6, k6, l4, s4, m4, u4⟩ := at_T32 (Kd.N_reads' HO_5.out).2.2 o0 M4 N4
       obtain rfl : k4 = U5 := (by injection C6)
       obtain ⟨O6, s5, Q5, V3⟩ := Kd.N_get HO_5.out z32 o0 M4 (by first | exact N4 | exact dt | (have e_ := (Kd.N_reads' HO_5.out).1; omega))
       obtain ⟨j6, q6, a6, s6, rfl, b3, Y2, J2, l3⟩ := k32_openF Q5
       have Q1 := V3 3 _ rfl
       rw [add_field _ _ 3 (by omega)] at Q1
       replace Q1 := Option.some.inj (Q1.symm.trans j4)
       injection Q1 with hva_ hvn_ hvc_
       rw [hva_] at Y2
       rw [hvc_] at b3
       have Z5 := am_ (show Kd.V k107 107 _ w.heap.size _ _ ((rd_T32 I0 o0).f1.f2) from Kd.V_mk b3 Y2)
       clear hva_ hvn_ hvc_ Y2 b3
       have U1 := V3 4 _ rfl
       rw [add_field _ _ 4 (by omega)] at U1
       replace U1 := Option.some.inj (U1.symm.trans i4)
       injection U1 with hva_ hvn_ hvc_
       rw [hva_] at l3
       rw [hvc_] at J2
       have Y5 := am_ (show Kd.V Kd.string 9 _ w.heap.size _ _ ((rd_T32 I0 o0).f1.f3) from Kd.V_mk J2 l3)
       clear hva_ hvn_ hvc_ l3 J2 V3 s5
       have b6 := am_ s4
       have W5 := am_ l4
       clear s4 l4
       have L4 := am_ u4
       have i6 := am_ m4
       clear u4 m4
       replace M4 := eq_true M4
       replace N4 := eq_true N4
       have ea_ := Option.some.inj (Q0.symm.trans j4)
       injection ea_ with ea_ en_ ec_
       subst ea_
       subst ec_
       clear en_
       have ea_ := Option.some.inj (U0.symm.trans i4)
       injection ea_ with ea_ en_ ec_
       subst ea_
       subst ec_
       clear en_
       have p5 : 0 ≤ (P1 : Int) := dt
       have j5 : P1 < (((rd_T32 I0 o0).f1.f3).length : Int) := dt
       obtain ⟨N6, D6, X5⟩ := Kd.at_string L4.out P1 p5 j5
       cases D6
       replace p5 := eq_true p5
       replace j5 := eq_true j5
       obtain ⟨_, _⟩ := n2 N1
       obtain ⟨_, _, _, _, _, _, _, _, _, _, _, _, _, _⟩ := bx7 E0
       go_wp2
       repeat (go_quiet (fail); try go_wp2)
       go_roundg k2
       case measure => have := X4.out; have := W4.out; omega
       case rel => exact ⟨(((rdOf ByteArray.empty ((rd_T32 I0 o0).f1.f3) P1).toList == V1.toList)), (wrap64 (P1 + 1)), fr, fr, H', ⟨by have := X4.out; have := W4.out; omega⟩, ⟨hN HO_5⟩, ⟨gB n0⟩, ⟨gB E0⟩, ⟨bh HB⟩⟩
      rw [if_neg S5] at H
      have V5 : decide (P1 < (((rd_T32 I0 o0).f1.f3).length : Int)) = false := decide_eq_false S5
      clear S5
      by_cases c6 : I4 = true
      ·
       subst c6
       rw [if_pos rfl] at H
       have H' := am_ H
       clear H
       have X0 : 0 ≤ (o0 : Int) := dt
       have W0 : o0 < (I0.length : Int) := dt
       obtain ⟨k4, W3, U3, X3, Y3, S3, L2, k3, D3, Q0, U0, C2, i3, O0, M0, P0, N0⟩ := at_T32 (Kd.N_reads' HO_5.out).2.2 o0 X0 W0
       cases S3
       obtain ⟨J4, Z0, Y0, L0⟩ := Kd.N_get HO_5.out z32 o0 X0 (by first | exact W0 | exact dt | (have e_ := (Kd.N_reads' HO_5.out).1; omega))
       obtain ⟨i2, u3, N2, Q2, rfl, u0, C0, A0, z0⟩ := k32_openF Y0
       have a0 := L0 3 _ rfl
       rw [add_field _ _ 3 (by omega)] at a0
       replace a0 := Option.some.inj (a0.symm.trans Q0)
       injection a0 with hva_ hvn_ hvc_
       rw [hva_] at C0
       rw [hvc_] at u0
       have a3 := am_ (show Kd.V k107 107 _ w.heap.size _ _ ((rd_T32 I0 o0).f1.f2) from Kd.V_mk u0 C0)
       clear hva_ hvn_ hvc_ C0 u0
       have m0 := L0 4 _ rfl
       rw [add_field _ _ 4 (by omega)] at m0
       replace m0 := Option.some.inj (m0.symm.trans U0)
       injection m0 with hva_ hvn_ hvc_
       rw [hva_] at z0
       rw [hvc_] at A0
       have V2 := am_ (show Kd.V Kd.string 9 _ w.heap.size _ _ ((rd_T32 I0 o0).f1.f3) from Kd.V_mk A0 z0)
       clear hva_ hvn_ hvc_ z0 A0 L0 Z0
       have m3 := am_ M0
       have Z2 := am_ O0
       clear M0 O0
       have D2 := am_ N0
       have C3 := am_ P0
       clear N0 P0
       replace X0 := eq_true X0
       replace W0 := eq_true W0
       go_wp2
       repeat (go_quiet (fail); try go_wp2)
       go_roundg k2
       case measure => have := X4.out; have := W4.out; omega
       case rel => exact ⟨(wrap64 (C4 + 1)), (wrap64 (o0 + 1)), fr, fr, H', ⟨by have := X4.out; have := W4.out; omega⟩, ⟨hN HO_5⟩, ⟨gB n0⟩, ⟨gB E0⟩, ⟨bh HB⟩⟩
      replace c6 := Bool.eq_false_iff.mpr c6
      subst c6
      rw [if_neg (show ¬ (false = true) by decide)] at H
      have H' := am_ H
      clear H
      have X0 : 0 ≤ (o0 : Int) := dt
      have W0 : o0 < (I0.length : Int) := dt
      obtain ⟨k4, W3, U3, X3, Y3, S3, L2, k3, D3, Q0, U0, C2, i3, O0, M0, P0, N0⟩ := at_T32 (Kd.N_reads' HO_5.out).2.2 o0 X0 W0
      cases S3
      obtain ⟨J4, Z0, Y0, L0⟩ := Kd.N_get HO_5.out z32 o0 X0 (by first | exact W0 | exact dt | (have e_ := (Kd.N_reads' HO_5.out).1; omega))
      obtain ⟨i2, u3, N2, Q2, rfl, u0, C0, A0, z0⟩ := k32_openF Y0
      have a0 := L0 3 _ rfl
      rw [add_field _ _ 3 (by omega)] at a0
      replace a0 := Option.some.inj (a0.symm.trans Q0)
      injection a0 with hva_ hvn_ hvc_
      rw [hva_] at C0
      rw [hvc_] at u0
      have a3 := am_ (show Kd.V k107 107 _ w.heap.size _ _ ((rd_T32 I0 o0).f1.f2) from Kd.V_mk u0 C0)
      clear hva_ hvn_ hvc_ C0 u0
      have m0 := L0 4 _ rfl
      rw [add_field _ _ 4 (by omega)] at m0
      replace m0 := Option.some.inj (m0.symm.trans U0)
      injection m0 with hva_ hvn_ hvc_
      rw [hva_] at z0
      rw [hvc_] at A0
      have V2 := am_ (show Kd.V Kd.string 9 _ w.heap.size _ _ ((rd_T32 I0 o0).f1.f3) from Kd.V_mk A0 z0)
      clear hva_ hvn_ hvc_ z0 A0 L0 Z0
      have m3 := am_ M0
      have Z2 := am_ O0
      clear M0 O0
      have D2 := am_ N0
      have C3 := am_ P0
      clear N0 P0
      replace X0 := eq_true X0
      replace W0 := eq_true W0
      go_wp2
      repeat (go_quiet (fail); try go_wp2)
      go_roundg k2
      case measure => have := X4.out; have := W4.out; omega
      case rel => exact ⟨(C4), (wrap64 (o0 + 1)), fr, fr, H', ⟨by have := X4.out; have := W4.out; omega⟩, ⟨hN HO_5⟩, ⟨gB n0⟩, ⟨gB E0⟩, ⟨bh HB⟩⟩
   rw [if_neg c10] at H
   have Q4 : decide (o0 < (I0.length : Int)) = false := decide_eq_false c10
   clear c10
   obtain rfl := Option.some.inj H
   obtain ⟨d7, Y6, K6⟩ := Kd.N_slice HO_5.out
   subst K6
   go_wp2
   repeat (go_quiet (fail); try go_wp2)
   go_ret
   exact ⟨fe, bh HB⟩

def H0.f (k : Nat) (a0_0 : Int) (a0_1 : Int) (l0_2 : List (S32)) (a1 : Int) : Option (ByteArray × Int × Int × (List (S107)) × List ByteArray × Int × Int × Int) := (Gc.f k a0_0 a0_1 l0_2 a1).bind fun a0 => (if a0.2.2.2.2.2.2.2 = 0 then ((Fe.f k a0_0 a0_1 l0_2 a0.1 a0.2.1 a0.2.2.1 a0.2.2.2.1 a0.2.2.2.2.1 a0.2.2.2.2.2.1 a0.2.2.2.2.2.2.1).bind fun n0 => ((G9.f a0_0).bind fun m0 => (if n0 < m0 then (some ((⟨#[]⟩ : ByteArray), 0, 0, ([] : List (S107)), ([] : List ByteArray), 0, 0, 12)) else (some (a0.1, a0.2.1, a0.2.2.1, a0.2.2.2.1, a0.2.2.2.2.1, a0.2.2.2.2.2.1, a0.2.2.2.2.2.2.1, 0))))) else (some ((⟨#[]⟩ : ByteArray), 0, 0, ([] : List (S107)), ([] : List ByteArray), 0, 0, a0.2.2.2.2.2.2.2)))
set_option maxHeartbeats 8000000 in
set_option maxRecDepth 100000 in
theorem H0.calls (k : Nat) (a0_0 : Int) (a0_1 : Int) (I0 : Nat → Prop) (A0_2 : Option Addr) (c0_2 : Nat) (l0_2 : List (S32)) (a1 : Int) (r1 : ByteArray) (r2 : Int) (r3 : Int) (r4 : List (S107)) (r5 : List ByteArray) (r6 : Int) (r7 : Int) (r8 : Int) (w : World) (l3 : Kd.V k32 32 w w.heap.size (fun k_ => I0 k_) (.slice A0_2 l0_2.length c0_2) l0_2) (h : H0.f k a0_0 a0_1 l0_2 a1 = some (r1, r2, r3, r4, r5, r6, r7, r8)) :
  Calls Tryz.prog 12 #[.agg #[.int .i64 a0_0, .int .i64 a0_1, .slice A0_2 l0_2.length c0_2], .int .i64 a1] w fun e w' => ∃ N3 L3 : Value, e = .returned (.tuple #[.agg #[.string r1, .int .i64 r2, .int .i64 r3, N3, L3, .int .i64 r6, .int .i64 r7], .int .i64 r8]) ∧ Kd.V k107 107 w' w.heap.size (fun k_ => (I0 k_ ∨ w.heap.size ≤ k_)) N3 r4 ∧ Kd.V Kd.string 9 w' w.heap.size (fun k_ => (I0 k_ ∨ w.heap.size ≤ k_)) L3 r5 ∧ Below w.heap.size w w' := by
 have X3 := Tryz.underlying24
 have Y3 := Tryz.underlying32
 have n0 := am_ (show Kd.V k32 32 w w.heap.size (fun k_ => (I0 k_ ∨ w.heap.size ≤ k_)) (.slice A0_2 l0_2.length c0_2) l0_2 from Kd.V_mono l3 (fun k_ hk => .inl hk))
 have HB := am_ (Below.refl w.heap.size w)
 have H : ((Gc.f k a0_0 a0_1 l0_2 a1).bind fun L0 => (if L0.2.2.2.2.2.2.2 = 0 then ((Fe.f k a0_0 a0_1 l0_2 L0.1 L0.2.1 L0.2.2.1 L0.2.2.2.1 L0.2.2.2.2.1 L0.2.2.2.2.2.1 L0.2.2.2.2.2.2.1).bind fun O1 => ((G9.f a0_0).bind fun N1 => (if O1 < N1 then (some ((⟨#[]⟩ : ByteArray), 0, 0, ([] : List (S107)), ([] : List ByteArray), 0, 0, 12)) else (some (L0.1, L0.2.1, L0.2.2.1, L0.2.2.2.1, L0.2.2.2.2.1, L0.2.2.2.2.2.1, L0.2.2.2.2.2.2.1, 0))))) else (some ((⟨#[]⟩ : ByteArray), 0, 0, ([] : List (S107)), ([] : List ByteArray), 0, 0, L0.2.2.2.2.2.2.2)))) = some (r1, r2, r3, r4, r5, r6, r7, r8) := h
 clear h
 replace H := Option.bind_eq_some_iff.mp H
 obtain ⟨⟨X0, P0, U0, Z0, Q0, Y0, V0, L1⟩, Q3, H⟩ := H
 try dsimp only at H
 have A3 := am_ Q3
 clear Q3
 by_cases c4 : L1 = 0
 ·
  rw [if_pos c4] at H
  have I3 : (L1 == 0) = true := beq_iff_eq.mpr c4
  have C3 : (L1 != 0) = false := bne_eq_false_iff_eq.mpr c4
  clear c4
  replace H := Option.bind_eq_some_iff.mp H
  obtain ⟨O1, J3, H⟩ := H
  try dsimp only at H
  have A5 := am_ J3
  clear J3
  replace H := Option.bind_eq_some_iff.mp H
  obtain ⟨N1, S3, H⟩ := H
  try dsimp only at H
  have A6 := am_ S3
  clear S3
  by_cases c7 : O1 < N1
  ·
   rw [if_pos c7] at H
   have D3 : decide (O1 < N1) = true := decide_eq_true c7
   clear c7
   simp only [Option.some.injEq, Prod.mk.injEq] at H
   obtain ⟨rfl, rfl, rfl, rfl, rfl, rfl, rfl, rfl⟩ := H
   go_enter Tryz.func12, Tryz.ntmps12
   try go_wp2_with (first | ((with_reducible refine gd_ 2 ?_); refine be_ 2 #[.int .i64 a0_0, .int .i64 a0_1, .slice A0_2 l0_2.length c0_2] 24 ?_; intro C0 hg w8 hbox hb; replace n0 := tVe n0 hg hb; have a0 := am_ hbox; have b3 := tG HB hg; have k3 := tG HB hg; replace HB := tHb HB hb; clear hb hbox hg) | ((with_reducible refine gd_ 4 ?_); refine be_ 4 #[.string (⟨#[]⟩ : ByteArray), .int .i64 0, .int .i64 0, .slice none 0 0, .slice none 0 0, .int .i64 0, .int .i64 0] 32 ?_; intro E0 hg w9 hbox hb; replace n0 := tVe n0 hg hb; have o0 := am_ hbox; have Q2 := tG HB hg; have i3 := tG HB hg; replace HB := tHb HB hb; obtain ⟨N0, i1⟩ := tN a0 hg; replace a0 := tBb a0 hb; clear hb hbox hg; obtain ⟨_, _⟩ := n2 N0; obtain ⟨_, _, _, _, _, _⟩ := bx3 a0) | ((with_reducible refine gate_callee (f := 10) rfl ?_); refine gl_ (some 11) Tryz.func10 #[.agg #[.int .i64 a0_0, .int .i64 a0_1, .slice A0_2 l0_2.length c0_2], .int .i64 a1] ?_; (with_reducible refine (Gc.calls k a0_0 a0_1 (fun k_ => (((I0 k_ ∨ w.heap.size ≤ k_) ∧ k_ ≠ C0) ∧ k_ ≠ E0)) _ _ l0_2 a1 X0 P0 U0 Z0 Q0 Y0 V0 L1 _ ?W0 A3.out).mono ?_); (case W0 => exact n0.out); rintro e J4 ⟨m3, u3, rfl, V2, Z2, hb⟩; refine ⟨_, rfl, ?_⟩; replace n0 := tVb n0 hb; have z0 := lo (fun k_ => (I0 k_ ∨ w.heap.size ≤ k_) ∧ k_ ≠ C0 ∧ k_ ≠ E0) V2 (fun k_ hk_ => ⟨Or.elim hk_ (fun hs_ => hs_.1.1) (fun hn_ => (.inr (Nat.le_trans (below_size (bh HB)) hn_))), Or.elim hk_ (fun hs_ => hs_.1.2) (fun hn_ => (gFr a0 k_ hn_)), Or.elim hk_ (fun hs_ => hs_.2) (fun hn_ => (gFr o0 k_ hn_))⟩) HB; have A0 := lo (fun k_ => (I0 k_ ∨ w.heap.size ≤ k_) ∧ k_ ≠ C0 ∧ k_ ≠ E0) Z2 (fun k_ hk_ => ⟨Or.elim hk_ (fun hs_ => hs_.1.1) (fun hn_ => (.inr (Nat.le_trans (below_size (bh HB)) hn_))), Or.elim hk_ (fun hs_ => hs_.1.2) (fun hn_ => (gFr a0 k_ hn_)), Or.elim hk_ (fun hs_ => hs_.2) (fun hn_ => (gFr o0 k_ hn_))⟩) HB; replace a0 := tBb a0 hb; replace o0 := tBb o0 hb; replace HB := tHb HB hb; (try clear hb V2 Z2)) | ((with_reducible refine gd_ 6 ?_); refine be_ 6 #[.string (⟨#[]⟩ : ByteArray), .int .i64 0, .int .i64 0, .slice none 0 0, .slice none 0 0, .int .i64 0, .int .i64 0] 32 ?_; intro u0 hg j4 hbox hb; replace n0 := tVe n0 hg hb; replace z0 := tVe z0 hg hb; replace A0 := tVe A0 hg hb; have m0 := am_ hbox; have a3 := tG HB hg; have Y2 := tG HB hg; replace HB := tHb HB hb; obtain ⟨D1, M0⟩ := tN a0 hg; replace a0 := tBb a0 hb; obtain ⟨C1, O0⟩ := tN o0 hg; replace o0 := tBb o0 hb; clear hb hbox hg; obtain ⟨_, _⟩ := n2 M0; obtain ⟨_, _⟩ := n2 O0; obtain ⟨_, _, _, _, _, _, _, _, _, _, _, _, _, _⟩ := bx7 m0; obtain ⟨D2, N2, rfl⟩ := Kd.V_slice z0.out; obtain ⟨J2, L2, rfl⟩ := Kd.V_slice A0.out) | ((with_reducible refine gate_store (t := 32) (p := 6) rfl ?_); refine se_ 32 6 (((((((j4.setCell ⟨u0, 0, none⟩ (.string X0)).setCell ⟨u0, 1, none⟩ (.int .i64 P0)).setCell ⟨u0, 2, none⟩ (.int .i64 U0)).setCell ⟨u0, 3, none⟩ (.slice D2 Z0.length N2)).setCell ⟨u0, 4, none⟩ (.slice J2 Q0.length L2)).setCell ⟨u0, 5, none⟩ (.int .i64 Y0)).setCell ⟨u0, 6, none⟩ (.int .i64 V0)) ?_; intro W3 hw; replace n0 := gVw (fun k_ => (I0 k_ ∨ w.heap.size ≤ k_) ∧ k_ ≠ C0 ∧ k_ ≠ E0 ∧ k_ ≠ u0) n0 hw; replace z0 := gVw (fun k_ => (I0 k_ ∨ w.heap.size ≤ k_) ∧ k_ ≠ C0 ∧ k_ ≠ E0 ∧ k_ ≠ u0) z0 hw; replace A0 := gVw (fun k_ => (I0 k_ ∨ w.heap.size ≤ k_) ∧ k_ ≠ C0 ∧ k_ ≠ E0 ∧ k_ ≠ u0) A0 hw; replace a0 := sB a0 hw; replace o0 := sB o0 hw; replace m0 := sP #[.string X0, .int .i64 P0, .int .i64 U0, .slice D2 Z0.length N2, .slice J2 Q0.length L2, .int .i64 Y0, .int .i64 V0] m0 hw; replace HB := sH HB hw; clear hw))
   replace n0 := am_ (Kd.V_drew n0.out)
   replace z0 := am_ (Kd.V_drew z0.out)
   replace A0 := am_ (Kd.V_drew A0.out)
   replace a0 := am_ (blk_drew a0.out)
   replace o0 := am_ (blk_drew o0.out)
   replace m0 := am_ (blk_drew m0.out)
   replace HB := am_ (below_drew1 HB.out)
   refine start_ (n := 7) (S := fun w' => w'.cell? ⟨C0, 0, none⟩ = some (.int .i64 a0_0) ∧ w'.cell? ⟨C0, 1, none⟩ = some (.int .i64 a0_1) ∧ w'.cell? ⟨C0, 2, none⟩ = some (.slice A0_2 l0_2.length c0_2) ∧ w'.cell? ⟨u0, 0, none⟩ = some (.string X0) ∧ w'.cell? ⟨u0, 1, none⟩ = some (.int .i64 P0) ∧ w'.cell? ⟨u0, 2, none⟩ = some (.int .i64 U0) ∧ w'.cell? ⟨u0, 3, none⟩ = some (.slice D2 Z0.length N2) ∧ w'.cell? ⟨u0, 4, none⟩ = some (.slice J2 Q0.length L2) ∧ w'.cell? ⟨u0, 5, none⟩ = some (.int .i64 Y0) ∧ w'.cell? ⟨u0, 6, none⟩ = some (.int .i64 V0)) (ds := []) #[false, false, false, false, false, false, false] (by kernel_rfl) rfl rfl ⟨(blk_cell a0.out 0).trans rfl, (blk_cell a0.out 1).trans rfl, (blk_cell a0.out 2).trans rfl, (blk_cell m0.out 0).trans rfl, (blk_cell m0.out 1).trans rfl, (blk_cell m0.out 2).trans rfl, (blk_cell m0.out 3).trans rfl, (blk_cell m0.out 4).trans rfl, (blk_cell m0.out 5).trans rfl, (blk_cell m0.out 6).trans rfl⟩ (fun hHeld => ?_)
   generalize W3.drew = l4 at n0 z0 A0 a0 o0 m0 HB hHeld ⊢
   refine pure_ (i := 3) (N := some 21) (v := ?_) (a' := ?_) #[false, false, false, true, false, false, false] rfl rfl (by kernel_rfl) (fun _ _ _ h => h) (Or.inl ⟨by rfl, ?_⟩) ?_ ?_
   rotate_left
   ·
    intro w'
    go_simp
    with_reducible rfl
   rotate_left
   ·
    simp only [Act.put, List.setIfInBounds_toArray, List.set_cons_zero, List.set_cons_succ, i64_w, i32_w]
    rfl
   refine take_ (i := 0) (N := some 18) (v := ?_) (a' := ?_) #[true, false, false, true, false, false, false] rfl rfl (by kernel_rfl) (fun _ _ _ h => h) (Or.inl ⟨by rfl, ?_⟩) hHeld ?_ ?_
   rotate_left
   ·
    rintro w' ⟨s0, s1, s2, s3, s4, s5, s6, s7, s8, s9⟩
    go_simp
    with_reducible rfl
   rotate_left
   ·
    simp only [Act.put, List.setIfInBounds_toArray, List.set_cons_zero, List.set_cons_succ, i64_w, i32_w]
    rfl
   refine take_ (i := 1) (N := some 19) (v := ?_) (a' := ?_) #[true, true, false, true, false, false, false] rfl rfl (by kernel_rfl) (fun _ _ _ h => h) (Or.inl ⟨by rfl, ?_⟩) hHeld ?_ ?_
   rotate_left
   ·
    rintro w' ⟨s0, s1, s2, s3, s4, s5, s6, s7, s8, s9⟩
    go_simp
    with_reducible rfl
   rotate_left
   ·
    simp only [Act.put, List.setIfInBounds_toArray, List.set_cons_zero, List.set_cons_succ, i64_w, i32_w]
    rfl
   refine take_ (i := 4) (N := some 22) (v := ?_) (a' := ?_) #[true, true, false, true, true, false, false] rfl rfl (by kernel_rfl) (fun _ _ _ h => h) (Or.inl ⟨by rfl, ?_⟩) hHeld ?_ ?_
   rotate_left
   ·
    rintro w' ⟨s0, s1, s2, s3, s4, s5, s6, s7, s8, s9⟩
    go_simp
    with_reducible rfl
   rotate_left
   ·
    simp only [Act.put, List.setIfInBounds_toArray, List.set_cons_zero, List.set_cons_succ, i64_w, i32_w]
    rfl
   refine one_ (i := 2) (N := some 20) #[true, true, true, true, true, false, false] rfl rfl (by kernel_rfl) (by decide) (fun K hK => ?_)
   refine goes_ Tryz.func15 (by kernel_rfl) rfl #[.agg #[.int .i64 a0_0, .int .i64 a0_1, .slice A0_2 l0_2.length c0_2], .agg #[.string X0, .int .i64 P0, .int .i64 U0, .slice D2 Z0.length N2, .slice J2 Q0.length L2, .int .i64 Y0, .int .i64 V0]] (by rfl) rfl rfl (by (try simp only [List.map_toArray, List.map_cons, List.map_nil]); first | done | rfl | (simp only [List.length_drop, List.length_take]; rfl)) ?_
   with_reducible refine (Fe.calls k a0_0 a0_1 _ _ l0_2 X0 P0 U0 _ _ Z0 _ _ Q0 Y0 V0 O1 _ ?W0 ?Y1 ?P1 ?C2 ?Q1 ?i2 A5.out).mono ?_
   (case W0 => repeat (first | exact (Kd.V_reads' n0.out).2.2 | (with_reducible refine Kd.C_alloc ?_ _) | (with_reducible refine Kd.C_drewN ?_ _) | (with_reducible refine Kd.C_drew ?_)))
   (case Y1 => exact (Kd.V_reads' n0.out).2.1)
   (case P1 => repeat (first | exact (Kd.V_reads' z0.out).2.2 | (with_reducible refine Kd.C_alloc ?_ _) | (with_reducible refine Kd.C_drewN ?_ _) | (with_reducible refine Kd.C_drew ?_)))
   (case C2 => exact (Kd.V_reads' z0.out).2.1)
   (case Q1 => repeat (first | exact (Kd.V_reads' A0.out).2.2 | (with_reducible refine Kd.C_alloc ?_ _) | (with_reducible refine Kd.C_drewN ?_ _) | (with_reducible refine Kd.C_drew ?_)))
   (case i2 => exact (Kd.V_reads' A0.out).2.1)
   rintro e I4 ⟨rfl, hb⟩
   refine ⟨_, rfl, ?_⟩
   replace n0 := tVb n0 hb
   replace z0 := tVb z0 hb
   replace A0 := tVb A0 hb
   replace a0 := tBb a0 hb
   replace o0 := tBb o0 hb
   replace m0 := tBb m0 hb
   replace HB := tHb HB hb
   (try clear hb)
   (try clear hb2)
   (try clear hk)
   (try clear hi)
   refine hK.out _ _ ⟨(blk_cell a0.out 0).trans rfl, (blk_cell a0.out 1).trans rfl, (blk_cell a0.out 2).trans rfl, (blk_cell m0.out 0).trans rfl, (blk_cell m0.out 1).trans rfl, (blk_cell m0.out 2).trans rfl, (blk_cell m0.out 3).trans rfl, (blk_cell m0.out 4).trans rfl, (blk_cell m0.out 5).trans rfl, (blk_cell m0.out 6).trans rfl⟩ (fun hHeld => ?_)
   clear hK K
   refine norm_ (a' := ?_) ?_ ?_
   rotate_left
   ·
    show Act.put _ (some 20) _ = _
    simp only [Act.put, List.setIfInBounds_toArray, List.set_cons_zero, List.set_cons_succ, i64_w, i32_w]
    rfl
   refine one_ (i := 5) (N := some 23) #[true, true, true, true, true, true, false] rfl rfl (by kernel_rfl) (by decide) (fun K hK => ?_)
   refine goes_ Tryz.func32 (by kernel_rfl) rfl #[.int .i64 a0_0] (by rfl) rfl rfl (by (try simp only [List.map_toArray, List.map_cons, List.map_nil]); first | done | rfl | (simp only [List.length_drop, List.length_take]; rfl)) ?_
   with_reducible refine (G9.calls a0_0 N1 _ A6.out).mono ?_
   rintro e w' ⟨rfl, ⟨nd, rfl⟩⟩
   refine ⟨_, rfl, ?_⟩
   refine hK.out _ _ ⟨(blk_cell a0.out 0).trans rfl, (blk_cell a0.out 1).trans rfl, (blk_cell a0.out 2).trans rfl, (blk_cell m0.out 0).trans rfl, (blk_cell m0.out 1).trans rfl, (blk_cell m0.out 2).trans rfl, (blk_cell m0.out 3).trans rfl, (blk_cell m0.out 4).trans rfl, (blk_cell m0.out 5).trans rfl, (blk_cell m0.out 6).trans rfl⟩ (fun hHeld => ?_)
   clear hK K
   refine norm_ (a' := ?_) ?_ ?_
   rotate_left
   ·
    show Act.put _ (some 23) _ = _
    simp only [Act.put, List.setIfInBounds_toArray, List.set_cons_zero, List.set_cons_succ, i64_w, i32_w]
    rfl
   refine pure_ (i := 6) (N := some 24) (v := ?_) (a' := ?_) #[true, true, true, true, true, true, true] rfl rfl (by kernel_rfl) (fun _ _ _ h => h) (Or.inl ⟨by rfl, ?_⟩) ?_ ?_
   rotate_left
   ·
    intro w'
    go_simp
    with_reducible rfl
   rotate_left
   ·
    simp only [Act.put, List.setIfInBounds_toArray, List.set_cons_zero, List.set_cons_succ, i64_w, i32_w]
    rfl
   refine done_ (by kernel_rfl) ?_
   obtain ⟨_, _, _, _, _, _, _, _, _, _, _, _, _, _⟩ := bx7 o0
   try go_wp2
   refine bodyPost_ret (results_ct rfl _ _ E0 32 #[.string (⟨#[]⟩ : ByteArray), .int .i64 0, .int .i64 0, .slice none 0 0, .slice none 0 0, .int .i64 0, .int .i64 0] (0, 0) _ rfl (gP o0 rfl) Tryz.underlying32 rfl (by kernel_rfl)) rfl ?_
   exact ⟨_, _, fe, Kd.V_nil _ _ _ _ _, Kd.V_nil _ _ _ _ _, bh HB⟩
  rw [if_neg c7] at H
  have D3 : decide (O1 < N1) = false := decide_eq_false c7
  clear c7
  simp only [Option.some.injEq, Prod.mk.injEq] at H
  obtain ⟨rfl, rfl, rfl, rfl, rfl, rfl, rfl, rfl⟩ := H
  go_enter Tryz.func12, Tryz.ntmps12
  try go_wp2_with (first | ((with_reducible refine gd_ 2 ?_); refine be_ 2 #[.int .i64 a0_0, .int .i64 a0_1, .slice A0_2 l0_2.length c0_2] 24 ?_; intro C0 hg K4 hbox hb; replace n0 := tVe n0 hg hb; have a0 := am_ hbox; have b3 := tG HB hg; have k3 := tG HB hg; replace HB := tHb HB hb; clear hb hbox hg) | ((with_reducible refine gd_ 4 ?_); refine be_ 4 #[.string (⟨#[]⟩ : ByteArray), .int .i64 0, .int .i64 0, .slice none 0 0, .slice none 0 0, .int .i64 0, .int .i64 0] 32 ?_; intro E0 hg E4 hbox hb; replace n0 := tVe n0 hg hb; have o0 := am_ hbox; have Q2 := tG HB hg; have i3 := tG HB hg; replace HB := tHb HB hb; obtain ⟨N0, i1⟩ := tN a0 hg; replace a0 := tBb a0 hb; clear hb hbox hg; obtain ⟨_, _⟩ := n2 N0; obtain ⟨_, _, _, _, _, _⟩ := bx3 a0) | ((with_reducible refine gate_callee (f := 10) rfl ?_); refine gl_ (some 11) Tryz.func10 #[.agg #[.int .i64 a0_0, .int .i64 a0_1, .slice A0_2 l0_2.length c0_2], .int .i64 a1] ?_; (with_reducible refine (Gc.calls k a0_0 a0_1 (fun k_ => (((I0 k_ ∨ w.heap.size ≤ k_) ∧ k_ ≠ C0) ∧ k_ ≠ E0)) _ _ l0_2 a1 X0 P0 U0 Z0 Q0 Y0 V0 L1 _ ?W0 A3.out).mono ?_); (case W0 => exact n0.out); rintro e m4 ⟨m3, u3, rfl, V2, Z2, hb⟩; refine ⟨_, rfl, ?_⟩; replace n0 := tVb n0 hb; have z0 := lo (fun k_ => (I0 k_ ∨ w.heap.size ≤ k_) ∧ k_ ≠ C0 ∧ k_ ≠ E0) V2 (fun k_ hk_ => ⟨Or.elim hk_ (fun hs_ => hs_.1.1) (fun hn_ => (.inr (Nat.le_trans (below_size (bh HB)) hn_))), Or.elim hk_ (fun hs_ => hs_.1.2) (fun hn_ => (gFr a0 k_ hn_)), Or.elim hk_ (fun hs_ => hs_.2) (fun hn_ => (gFr o0 k_ hn_))⟩) HB; have A0 := lo (fun k_ => (I0 k_ ∨ w.heap.size ≤ k_) ∧ k_ ≠ C0 ∧ k_ ≠ E0) Z2 (fun k_ hk_ => ⟨Or.elim hk_ (fun hs_ => hs_.1.1) (fun hn_ => (.inr (Nat.le_trans (below_size (bh HB)) hn_))), Or.elim hk_ (fun hs_ => hs_.1.2) (fun hn_ => (gFr a0 k_ hn_)), Or.elim hk_ (fun hs_ => hs_.2) (fun hn_ => (gFr o0 k_ hn_))⟩) HB; replace a0 := tBb a0 hb; replace o0 := tBb o0 hb; replace HB := tHb HB hb; (try clear hb V2 Z2)) | ((with_reducible refine gd_ 6 ?_); refine be_ 6 #[.string (⟨#[]⟩ : ByteArray), .int .i64 0, .int .i64 0, .slice none 0 0, .slice none 0 0, .int .i64 0, .int .i64 0] 32 ?_; intro u0 hg a4 hbox hb; replace n0 := tVe n0 hg hb; replace z0 := tVe z0 hg hb; replace A0 := tVe A0 hg hb; have m0 := am_ hbox; have a3 := tG HB hg; have Y2 := tG HB hg; replace HB := tHb HB hb; obtain ⟨D1, M0⟩ := tN a0 hg; replace a0 := tBb a0 hb; obtain ⟨C1, O0⟩ := tN o0 hg; replace o0 := tBb o0 hb; clear hb hbox hg; obtain ⟨_, _⟩ := n2 M0; obtain ⟨_, _⟩ := n2 O0; obtain ⟨_, _, _, _, _, _, _, _, _, _, _, _, _, _⟩ := bx7 m0; obtain ⟨Z1, V1, rfl⟩ := Kd.V_slice z0.out; obtain ⟨X1, U1, rfl⟩ := Kd.V_slice A0.out) | ((with_reducible refine gate_store (t := 32) (p := 6) rfl ?_); refine se_ 32 6 (((((((a4.setCell ⟨u0, 0, none⟩ (.string X0)).setCell ⟨u0, 1, none⟩ (.int .i64 P0)).setCell ⟨u0, 2, none⟩ (.int .i64 U0)).setCell ⟨u0, 3, none⟩ (.slice Z1 Z0.length V1)).setCell ⟨u0, 4, none⟩ (.slice X1 Q0.length U1)).setCell ⟨u0, 5, none⟩ (.int .i64 Y0)).setCell ⟨u0, 6, none⟩ (.int .i64 V0)) ?_; intro i4 hw; replace n0 := gVw (fun k_ => (I0 k_ ∨ w.heap.size ≤ k_) ∧ k_ ≠ C0 ∧ k_ ≠ E0 ∧ k_ ≠ u0) n0 hw; replace z0 := gVw (fun k_ => (I0 k_ ∨ w.heap.size ≤ k_) ∧ k_ ≠ C0 ∧ k_ ≠ E0 ∧ k_ ≠ u0) z0 hw; replace A0 := gVw (fun k_ => (I0 k_ ∨ w.heap.size ≤ k_) ∧ k_ ≠ C0 ∧ k_ ≠ E0 ∧ k_ ≠ u0) A0 hw; replace a0 := sB a0 hw; replace o0 := sB o0 hw; replace m0 := sP #[.string X0, .int .i64 P0, .int .i64 U0, .slice Z1 Z0.length V1, .slice X1 Q0.length U1, .int .i64 Y0, .int .i64 V0] m0 hw; replace HB := sH HB hw; clear hw))
  replace n0 := am_ (Kd.V_drew n0.out)
  replace z0 := am_ (Kd.V_drew z0.out)
  replace A0 := am_ (Kd.V_drew A0.out)
  replace a0 := am_ (blk_drew a0.out)
  replace o0 := am_ (blk_drew o0.out)
  replace m0 := am_ (blk_drew m0.out)
  replace HB := am_ (below_drew1 HB.out)
  refine start_ (n := 7) (S := fun w' => w'.cell? ⟨C0, 0, none⟩ = some (.int .i64 a0_0) ∧ w'.cell? ⟨C0, 1, none⟩ = some (.int .i64 a0_1) ∧ w'.cell? ⟨C0, 2, none⟩ = some (.slice A0_2 l0_2.length c0_2) ∧ w'.cell? ⟨u0, 0, none⟩ = some (.string X0) ∧ w'.cell? ⟨u0, 1, none⟩ = some (.int .i64 P0) ∧ w'.cell? ⟨u0, 2, none⟩ = some (.int .i64 U0) ∧ w'.cell? ⟨u0, 3, none⟩ = some (.slice Z1 Z0.length V1) ∧ w'.cell? ⟨u0, 4, none⟩ = some (.slice X1 Q0.length U1) ∧ w'.cell? ⟨u0, 5, none⟩ = some (.int .i64 Y0) ∧ w'.cell? ⟨u0, 6, none⟩ = some (.int .i64 V0)) (ds := []) #[false, false, false, false, false, false, false] (by kernel_rfl) rfl rfl ⟨(blk_cell a0.out 0).trans rfl, (blk_cell a0.out 1).trans rfl, (blk_cell a0.out 2).trans rfl, (blk_cell m0.out 0).trans rfl, (blk_cell m0.out 1).trans rfl, (blk_cell m0.out 2).trans rfl, (blk_cell m0.out 3).trans rfl, (blk_cell m0.out 4).trans rfl, (blk_cell m0.out 5).trans rfl, (blk_cell m0.out 6).trans rfl⟩ (fun hHeld => ?_)
  generalize i4.drew = u4 at n0 z0 A0 a0 o0 m0 HB hHeld ⊢
  refine pure_ (i := 3) (N := some 21) (v := ?_) (a' := ?_) #[false, false, false, true, false, false, false] rfl rfl (by kernel_rfl) (fun _ _ _ h => h) (Or.inl ⟨by rfl, ?_⟩) ?_ ?_
  rotate_left
  ·
   intro w'
   go_simp
   with_reducible rfl
  rotate_left
  ·
   simp only [Act.put, List.setIfInBounds_toArray, List.set_cons_zero, List.set_cons_succ, i64_w, i32_w]
   rfl
  refine take_ (i := 0) (N := some 18) (v := ?_) (a' := ?_) #[true, false, false, true, false, false, false] rfl rfl (by kernel_rfl) (fun _ _ _ h => h) (Or.inl ⟨by rfl, ?_⟩) hHeld ?_ ?_
  rotate_left
  ·
   rintro w' ⟨s0, s1, s2, s3, s4, s5, s6, s7, s8, s9⟩
   go_simp
   with_reducible rfl
  rotate_left
  ·
   simp only [Act.put, List.setIfInBounds_toArray, List.set_cons_zero, List.set_cons_succ, i64_w, i32_w]
   rfl
  refine take_ (i := 1) (N := some 19) (v := ?_) (a' := ?_) #[true, true, false, true, false, false, false] rfl rfl (by kernel_rfl) (fun _ _ _ h => h) (Or.inl ⟨by rfl, ?_⟩) hHeld ?_ ?_
  rotate_left
  ·
   rintro w' ⟨s0, s1, s2, s3, s4, s5, s6, s7, s8, s9⟩
   go_simp
   with_reducible rfl
  rotate_left
  ·
   simp only [Act.put, List.setIfInBounds_toArray, List.set_cons_zero, List.set_cons_succ, i64_w, i32_w]
   rfl
  refine take_ (i := 4) (N := some 22) (v := ?_) (a' := ?_) #[true, true, false, true, true, false, false] rfl rfl (by kernel_rfl) (fun _ _ _ h => h) (Or.inl ⟨by rfl, ?_⟩) hHeld ?_ ?_
  rotate_left
  ·
   rintro w' ⟨s0, s1, s2, s3, s4, s5, s6, s7, s8, s9⟩
   go_simp
   with_reducible rfl
  rotate_left
  ·
   simp only [Act.put, List.setIfInBounds_toArray, List.set_cons_zero, List.set_cons_succ, i64_w, i32_w]
   rfl
  refine one_ (i := 2) (N := some 20) #[true, true, true, true, true, false, false] rfl rfl (by kernel_rfl) (by decide) (fun K hK => ?_)
  refine goes_ Tryz.func15 (by kernel_rfl) rfl #[.agg #[.int .i64 a0_0, .int .i64 a0_1, .slice A0_2 l0_2.length c0_2], .agg #[.string X0, .int .i64 P0, .int .i64 U0, .slice Z1 Z0.length V1, .slice X1 Q0.length U1, .int .i64 Y0, .int .i64 V0]] (by rfl) rfl rfl (by (try simp only [List.map_toArray, List.map_cons, List.map_nil]); first | done | rfl | (simp only [List.length_drop, List.length_take]; rfl)) ?_
  with_reducible refine (Fe.calls k a0_0 a0_1 _ _ l0_2 X0 P0 U0 _ _ Z0 _ _ Q0 Y0 V0 O1 _ ?W0 ?Y1 ?P1 ?C2 ?Q1 ?i2 A5.out).mono ?_
  (case W0 => repeat (first | exact (Kd.V_reads' n0.out).2.2 | (with_reducible refine Kd.C_alloc ?_ _) | (with_reducible refine Kd.C_drewN ?_ _) | (with_reducible refine Kd.C_drew ?_)))
  (case Y1 => exact (Kd.V_reads' n0.out).2.1)
  (case P1 => repeat (first | exact (Kd.V_reads' z0.out).2.2 | (with_reducible refine Kd.C_alloc ?_ _) | (with_reducible refine Kd.C_drewN ?_ _) | (with_reducible refine Kd.C_drew ?_)))
  (case C2 => exact (Kd.V_reads' z0.out).2.1)
  (case Q1 => repeat (first | exact (Kd.V_reads' A0.out).2.2 | (with_reducible refine Kd.C_alloc ?_ _) | (with_reducible refine Kd.C_drewN ?_ _) | (with_reducible refine Kd.C_drew ?_)))
  (case i2 => exact (Kd.V_reads' A0.out).2.1)
  rintro e M4 ⟨rfl, hb⟩
  refine ⟨_, rfl, ?_⟩
  replace n0 := tVb n0 hb
  replace z0 := tVb z0 hb
  replace A0 := tVb A0 hb
  replace a0 := tBb a0 hb
  replace o0 := tBb o0 hb
  replace m0 := tBb m0 hb
  replace HB := tHb HB hb
  (try clear hb)
  (try clear hb2)
  (try clear hk)
  (try clear hi)
  refine hK.out _ _ ⟨(blk_cell a0.out 0).trans rfl, (blk_cell a0.out 1).trans rfl, (blk_cell a0.out 2).trans rfl, (blk_cell m0.out 0).trans rfl, (blk_cell m0.out 1).trans rfl, (blk_cell m0.out 2).trans rfl, (blk_cell m0.out 3).trans rfl, (blk_cell m0.out 4).trans rfl, (blk_cell m0.out 5).trans rfl, (blk_cell m0.out 6).trans rfl⟩ (fun hHeld => ?_)
  clear hK K
  refine norm_ (a' := ?_) ?_ ?_
  rotate_left
  ·
   show Act.put _ (some 20) _ = _
   simp only [Act.put, List.setIfInBounds_toArray, List.set_cons_zero, List.set_cons_succ, i64_w, i32_w]
   rfl
  refine one_ (i := 5) (N := some 23) #[true, true, true, true, true, true, false] rfl rfl (by kernel_rfl) (by decide) (fun K hK => ?_)
  refine goes_ Tryz.func32 (by kernel_rfl) rfl #[.int .i64 a0_0] (by rfl) rfl rfl (by (try simp only [List.map_toArray, List.map_cons, List.map_nil]); first | done | rfl | (simp only [List.length_drop, List.length_take]; rfl)) ?_
  with_reducible refine (G9.calls a0_0 N1 _ A6.out).mono ?_
  rintro e w' ⟨rfl, ⟨nd, rfl⟩⟩
  refine ⟨_, rfl, ?_⟩
  refine hK.out _ _ ⟨(blk_cell a0.out 0).trans rfl, (blk_cell a0.out 1).trans rfl, (blk_cell a0.out 2).trans rfl, (blk_cell m0.out 0).trans rfl, (blk_cell m0.out 1).trans rfl, (blk_cell m0.out 2).trans rfl, (blk_cell m0.out 3).trans rfl, (blk_cell m0.out 4).trans rfl, (blk_cell m0.out 5).trans rfl, (blk_cell m0.out 6).trans rfl⟩ (fun hHeld => ?_)
  clear hK K
  refine norm_ (a' := ?_) ?_ ?_
  rotate_left
  ·
   show Act.put _ (some 23) _ = _
   simp only [Act.put, List.setIfInBounds_toArray, List.set_cons_zero, List.set_cons_succ, i64_w, i32_w]
   rfl
  refine pure_ (i := 6) (N := some 24) (v := ?_) (a' := ?_) #[true, true, true, true, true, true, true] rfl rfl (by kernel_rfl) (fun _ _ _ h => h) (Or.inl ⟨by rfl, ?_⟩) ?_ ?_
  rotate_left
  ·
   intro w'
   go_simp
   with_reducible rfl
  rotate_left
  ·
   simp only [Act.put, List.setIfInBounds_toArray, List.set_cons_zero, List.set_cons_succ, i64_w, i32_w]
   rfl
  refine done_ (by kernel_rfl) ?_
  obtain ⟨_, _, _, _, _, _, _, _, _, _, _, _, _, _⟩ := bx7 m0
  obtain ⟨_, _, _, _, _, _, _, _, _, _, _, _, _, _⟩ := bx7 o0
  try go_wp2
  refine bodyPost_ret (results_ct rfl _ _ E0 32 #[.string X0, .int .i64 P0, .int .i64 U0, .slice Z1 Z0.length V1, .slice X1 Q0.length U1, .int .i64 Y0, .int .i64 V0] (0, 0) _ rfl (gP o0 rfl) Tryz.underlying32 rfl (by kernel_rfl)) rfl ?_
  exact ⟨_, _, fe, gV z0, gV A0, bh HB⟩
 rw [if_neg c4] at H
 have I3 : (L1 == 0) = false := beq_eq_false_iff_ne.mpr c4
 have C3 : (L1 != 0) = true := bne_iff_ne.mpr c4
 simp only [Option.some.injEq, Prod.mk.injEq] at H
 obtain ⟨rfl, rfl, rfl, rfl, rfl, rfl, rfl, rfl⟩ := H
 go_enter Tryz.func12, Tryz.ntmps12
 go_wp2_with (first | ((with_reducible refine gd_ 2 ?_); refine be_ 2 #[.int .i64 a0_0, .int .i64 a0_1, .slice A0_2 l0_2.length c0_2] 24 ?_; intro C0 hg D4 hbox hb; replace n0 := tVe n0 hg hb; have a0 := am_ hbox; have b3 := tG HB hg; have k3 := tG HB hg; replace HB := tHb HB hb; clear hb hbox hg) | ((with_reducible refine gd_ 4 ?_); refine be_ 4 #[.string (⟨#[]⟩ : ByteArray), .int .i64 0, .int .i64 0, .slice none 0 0, .slice none 0 0, .int .i64 0, .int .i64 0] 32 ?_; intro E0 hg N4 hbox hb; replace n0 := tVe n0 hg hb; have o0 := am_ hbox; have Q2 := tG HB hg; have i3 := tG HB hg; replace HB := tHb HB hb; obtain ⟨N0, i1⟩ := tN a0 hg; replace a0 := tBb a0 hb; clear hb hbox hg; obtain ⟨_, _⟩ := n2 N0; obtain ⟨_, _, _, _, _, _⟩ := bx3 a0) | ((with_reducible refine gate_callee (f := 10) rfl ?_); refine gl_ (some 11) Tryz.func10 #[.agg #[.int .i64 a0_0, .int .i64 a0_1, .slice A0_2 l0_2.length c0_2], .int .i64 a1] ?_; (with_reducible refine (Gc.calls k a0_0 a0_1 (fun k_ => (((I0 k_ ∨ w.heap.size ≤ k_) ∧ k_ ≠ C0) ∧ k_ ≠ E0)) _ _ l0_2 a1 X0 P0 U0 Z0 Q0 Y0 V0 L1 _ ?W0 A3.out).mono ?_); (case W0 => exact n0.out); rintro e C4 ⟨m3, u3, rfl, V2, Z2, hb⟩; refine ⟨_, rfl, ?_⟩; replace n0 := tVb n0 hb; have z0 := lo (fun k_ => (I0 k_ ∨ w.heap.size ≤ k_) ∧ k_ ≠ C0 ∧ k_ ≠ E0) V2 (fun k_ hk_ => ⟨Or.elim hk_ (fun hs_ => hs_.1.1) (fun hn_ => (.inr (Nat.le_trans (below_size (bh HB)) hn_))), Or.elim hk_ (fun hs_ => hs_.1.2) (fun hn_ => (gFr a0 k_ hn_)), Or.elim hk_ (fun hs_ => hs_.2) (fun hn_ => (gFr o0 k_ hn_))⟩) HB; have A0 := lo (fun k_ => (I0 k_ ∨ w.heap.size ≤ k_) ∧ k_ ≠ C0 ∧ k_ ≠ E0) Z2 (fun k_ hk_ => ⟨Or.elim hk_ (fun hs_ => hs_.1.1) (fun hn_ => (.inr (Nat.le_trans (below_size (bh HB)) hn_))), Or.elim hk_ (fun hs_ => hs_.1.2) (fun hn_ => (gFr a0 k_ hn_)), Or.elim hk_ (fun hs_ => hs_.2) (fun hn_ => (gFr o0 k_ hn_))⟩) HB; replace a0 := tBb a0 hb; replace o0 := tBb o0 hb; replace HB := tHb HB hb; (try clear hb V2 Z2)) | ((with_reducible refine gd_ 6 ?_); refine be_ 6 #[.string (⟨#[]⟩ : ByteArray), .int .i64 0, .int .i64 0, .slice none 0 0, .slice none 0 0, .int .i64 0, .int .i64 0] 32 ?_; intro u0 hg L4 hbox hb; replace n0 := tVe n0 hg hb; replace z0 := tVe z0 hg hb; replace A0 := tVe A0 hg hb; have m0 := am_ hbox; have a3 := tG HB hg; have Y2 := tG HB hg; replace HB := tHb HB hb; obtain ⟨D1, M0⟩ := tN a0 hg; replace a0 := tBb a0 hb; obtain ⟨C1, O0⟩ := tN o0 hg; replace o0 := tBb o0 hb; clear hb hbox hg; obtain ⟨_, _⟩ := n2 M0; obtain ⟨_, _⟩ := n2 O0; obtain ⟨_, _, _, _, _, _, _, _, _, _, _, _, _, _⟩ := bx7 m0; obtain ⟨U3, k4, rfl⟩ := Kd.V_slice z0.out; obtain ⟨V3, Z3, rfl⟩ := Kd.V_slice A0.out; obtain ⟨_, _, _, _, _, _, _, _, _, _, _, _, _, _⟩ := bx7 o0))
 refine bodyPost_ret (results_ct rfl _ _ E0 32 #[.string (⟨#[]⟩ : ByteArray), .int .i64 0, .int .i64 0, .slice none 0 0, .slice none 0 0, .int .i64 0, .int .i64 0] (0, 0) _ rfl (gP o0 rfl) Tryz.underlying32 rfl (by kernel_rfl)) rfl ?_
 exact ⟨_, _, fe, Kd.V_nil _ _ _ _ _, Kd.V_nil _ _ _ _ _, bh HB⟩

end Go.Proofs.YtopijobdblfhoaaGreat.PTuskAsks
