-- written by a program of this session (pp.py), out of the kit's print and this session's contracts
import Derived.Test.YtopijobdblfhoaaGreatPTuskAsksx0
import Derived.Test.YtopijobdblfhoaaGreatPTuskAsksx20
import Derived.Test.YtopijobdblfhoaaGreatVTuskAsksPi
namespace Go.Proofs.YtopijobdblfhoaaGreat.PTuskAsks
open Go.RowKit Go.Proofs.YtopijobdblfhoaaGreatW.PrintWords Go.Proofs.YtopijobdblfhoaaGreatW.PrintLast Go.Proofs.YtopijobdblfhoaaGreatW.PrintMore
set_option linter.unusedVariables false
set_option linter.unusedSimpArgs false

def F6.l0 : Nat → List (S32) → List (S32) → Int → Option (Bool)
 | 0, _, _, _ => none
 | k + 1, x0, x1, x5 => if x5 < (x0.length : Int) then (if 0 ≤ x5 then (if x5 < (x1.length : Int) then ((Gj.f k ((rd_T32 x0 x5).f1.f0) ((rd_T32 x0 x5).f1.f1) ((rd_T32 x0 x5).f1.f2) ((rd_T32 x0 x5).f1.f3) ((rd_T32 x0 x5).f1.f4.f0) ((rd_T32 x0 x5).f1.f4.f1) ((rd_T32 x1 x5).f1.f0) ((rd_T32 x1 x5).f1.f1) ((rd_T32 x1 x5).f1.f2) ((rd_T32 x1 x5).f1.f3) ((rd_T32 x1 x5).f1.f4.f0) ((rd_T32 x1 x5).f1.f4.f1)).bind fun a0 => (if a0 = true then (if ((rd_T32 x0 x5).f0).toList = ((rd_T32 x1 x5).f0).toList then (F6.l0 k x0 x1 (wrap64 (x5 + 1))) else (some false)) else (some false))) else (none)) else (none)) else (some true)
def F6.f (k : Nat) (l0 : List (S32)) (l1 : List (S32)) : Option (Bool) := if (l0.length : Int) = (l1.length : Int) then (F6.l0 k l0 l1 0) else (some false)
def F6.T6 : Bool × List (List Nat × List Nat) := (true, [([], []), ([], []), ([0, 1], [0, 1]), ([2], [2]), ([3], [3]), ([], []), ([], []), ([5, 6], [5, 6]), ([7], [7]), ([8], [8]), ([4, 9], [4, 9]), ([10, 10, 0, 1, 2, 3, 4, 5, 6, 7, 8, 9, 10], [10])])
def F6.B6 : List Nat := [0, 0, 3, 7, 15, 0, 0, 96, 224, 480, 1023, 2047]
theorem F6.tab6 : rtab .any (opsOf Tryz.f13 6) = F6.T6 := by kernel_rfl
theorem F6.bits6 : waitsOk F6.T6.2 F6.B6 = true := by kernel_rfl
def F6.T7 : Bool × List (List Nat × List Nat) := (true, [([], []), ([0], [0]), ([1], [1]), ([2], [2]), ([2], [2]), ([3, 4, 2], [2, 3, 4]), ([5, 2], [2, 5]), ([6, 2], [2, 6]), ([2], [2]), ([2], [2]), ([8, 9, 2], [2, 8, 9]), ([10, 2], [2, 10]), ([11, 2], [2, 11]), ([7, 12, 2], [2, 7, 12]), ([2, 13], [2, 13])])
def F6.B7 : List Nat := [0, 1, 3, 7, 7, 31, 63, 127, 7, 7, 775, 1799, 3847, 8191, 16383]
theorem F6.tab7 : rtab .any (opsOf Tryz.f13 7) = F6.T7 := by kernel_rfl
theorem F6.bits7 : waitsOk F6.T7.2 F6.B7 = true := by kernel_rfl
set_option maxHeartbeats 8000000 in
set_option maxRecDepth 100000 in
theorem F6.calls (k : Nat) (A0 : Option Addr) (c0 : Nat) (l0 : List (S32)) (A1 : Option Addr) (c1 : Nat) (l1 : List (S32)) (r : Bool) (w : World) (I6 : Kd.C k32 w A0 l0.length l0) (C6 : l0.length ≤ c0) (E6 : Kd.C k32 w A1 l1.length l1) (D6 : l1.length ≤ c1) (h : F6.f k l0 l1 = some r) :
  Calls Tryz.prog 13 #[.slice A0 l0.length c0, .slice A1 l1.length c1] w fun e w' => e = .returned (.bool r) ∧ Below w.heap.size w w' := by
 have P6 := Tryz.underlying30
 have m6 := am_ I6
 have R6 := am_ C6
 clear I6 C6
 have o6 := am_ E6
 have S6 := am_ D6
 clear E6 D6
 have HB := am_ (Below.refl w.heap.size w)
 have H : (if (l0.length : Int) = (l1.length : Int) then (F6.l0 k l0 l1 0) else (some false)) = some r := h
 clear h
 by_cases c3 : (l0.length : Int) = (l1.length : Int)
 ·
  rw [if_pos c3] at H
  have p6 : ((l0.length : Int) == (l1.length : Int)) = true := beq_iff_eq.mpr c3
  have l6 : ((l0.length : Int) != (l1.length : Int)) = false := bne_eq_false_iff_eq.mpr c3
  have k6 : (l0.length == l1.length) = true := by first | simpa using c3 | (simp at c3 ⊢; omega)
  clear c3
  have H' := am_ H
  clear H
  go_enter Tryz.func13, Tryz.ntmps13
  go_wp2
  go_loopg [5] k (fun kq v5 w' => ∃ (a0 : Int), v5 = .int .i64 a0 ∧ Asc (F6.l0 kq l0 l1 a0 = some r) ∧ Asc (kq ≤ k) ∧ Asc (Below w.heap.size w w'))
  case atStart => exact ⟨(0), fr, H', ⟨Nat.le_refl _⟩, ⟨bh HB⟩⟩
  case round =>
   clear H'
   try clear p6 l6 k6
   obtain ⟨a0, rfl, HA, J6, HB⟩ := hrel
   cases gk with
   | zero => exact absurd HA.out (by simp [F6.l0])
   | succ k1 =>
    have H := HA.out
    clear HA
    simp only [F6.l0] at H
    by_cases c4 : a0 < (l0.length : Int)
    ·
     rw [if_pos c4] at H
     have z6 : decide (a0 < (l0.length : Int)) = true := decide_eq_true c4
     clear c4
     revert H
     refine gi (fun K6 H => ?_)
     revert H
     refine gi (fun O6 H => ?_)
     replace H := Option.bind_eq_some_iff.mp H
     obtain ⟨q6, A6, H⟩ := H
     try dsimp only at H
     have A7 := am_ A6
     clear A6
     by_cases c8 : q6 = true
     ·
      subst c8
      rw [if_pos rfl] at H
      by_cases c9 : ((rd_T32 l0 a0).f0).toList = ((rd_T32 l1 a0).f0).toList
      ·
       rw [if_pos c9] at H
       have r6 : (((rd_T32 l0 a0).f0).toList == ((rd_T32 l1 a0).f0).toList) = true := beq_iff_eq.mpr c9
       have s6 : (((rd_T32 l0 a0).f0).toList != ((rd_T32 l1 a0).f0).toList) = false := bne_eq_false_iff_eq.mpr c9
       clear c9
       have H' := am_ H
       clear H
       try go_wp2
       replace HB := am_ (below_drew1 HB.out)
       have D4 : 0 ≤ (a0 : Int) := dt
       have l4 : a0 < (l0.length : Int) := dt
       obtain ⟨K5, K4, I4, s4, m4, M5, n0, u0, m0, Q0, N0, P0, C0, V1, l3, D2, Z2⟩ := at_T32 m6.out a0 D4 l4
       have k3 := C0
       have m3 := P0
       have J2 := N0
       have Q2 := Q0
       have i2 := m0
       have U1 := u0
       have V2 := n0
       cases M5
       replace n0 := ce HB n0
       replace u0 := ce HB u0
       replace m0 := ce HB m0
       replace Q0 := ce HB Q0
       replace N0 := ce HB N0
       replace P0 := ce HB P0
       replace C0 := ce HB C0
       have L2 := am_ l3
       have S3 := am_ V1
       clear l3 V1
       have C3 := am_ Z2
       have W3 := am_ D2
       clear Z2 D2
       replace D4 := eq_true D4
       replace l4 := eq_true l4
       have C4 : 0 ≤ (a0 : Int) := dt
       have j4 : a0 < (l1.length : Int) := dt
       obtain ⟨L5, u4, E4, k4, J4, N5, I0, o0, O0, E0, L0, M0, z0, b3, Y1, Y2, u3⟩ := at_T32 o6.out a0 C4 j4
       have a3 := z0
       have i3 := M0
       have D3 := L0
       have X1 := E0
       have Z1 := O0
       have J3 := o0
       have N2 := I0
       cases N5
       replace I0 := ce HB I0
       replace o0 := ce HB o0
       replace O0 := ce HB O0
       replace E0 := ce HB E0
       replace L0 := ce HB L0
       replace M0 := ce HB M0
       replace z0 := ce HB z0
       have I3 := am_ Y1
       have N3 := am_ b3
       clear Y1 b3
       have C2 := am_ u3
       have a4 := am_ Y2
       clear u3 Y2
       replace C4 := eq_true C4
       replace j4 := eq_true j4
       refine st_ 12 [] (cd_ (ce HB (by first | exact V2)) (cd_ (ce HB (by first | exact U1)) (cd_ (ce HB (by first | exact i2)) (cd_ (ce HB (by first | exact Q2)) (cd_ (ce HB (by first | exact J2)) (cd_ (ce HB (by first | exact m3)) (cd_ (ce HB (by first | exact k3)) (cd_ (ce HB (by first | exact N2)) (cd_ (ce HB (by first | exact J3)) (cd_ (ce HB (by first | exact Z1)) (cd_ (ce HB (by first | exact X1)) (cd_ (ce HB (by first | exact D3)) (cd_ (ce HB (by first | exact i3)) (cd_ (ce HB (by first | exact a3)) ct)))))))))))))) (fun hHeld => ?_); refine with_tabW F6.tab6 F6.bits6 (fun HT_ HW_ => ?_)
       generalize wr.drew = W6 at HB L2 C3 I3 C2 n0 u0 m0 Q0 N0 P0 C0 I0 o0 O0 E0 L0 M0 z0 hHeld ⊢
       refine pu_ 0 (some 18) 1 HT_ (h := ?_)
       refine pu_ 1 (some 19) 3 HT_ (h := ?_)
       refine pu_ 2 (some 20) 7 HT_ (h := ?_)
       refine pu_ 3 (some 21) 15 HT_ (h := ?_)
       refine pu_ 5 (some 23) 47 HT_ (h := ?_)
       refine pu_ 6 (some 24) 111 HT_ (h := ?_)
       refine pu_ 7 (some 25) 239 HT_ (h := ?_)
       refine pu_ 8 (some 26) 495 HT_ (h := ?_)
       refine tk_ 4 (some 22) 511 HT_ HW_ hHeld (h := ?_)
       refine tk_ 9 (some 27) 1023 HT_ HW_ hHeld (h := ?_)
       refine one_ (i := 10) (N := some 28) #[true, true, true, true, true, true, true, true, true, true, true, false] rfl rfl (one_of HT_.out (by kernel_rfl)) (by decide) (fun K hK => ?_)
       refine goes_ Tryz.func33 (by kernel_rfl) rfl #[.agg #[.int .i64 ((rd_T32 l0 a0).f1.f0), .int .i64 ((rd_T32 l0 a0).f1.f1), .slice K4 ((rd_T32 l0 a0).f1.f2).length I4, .slice s4 ((rd_T32 l0 a0).f1.f3).length m4, .int .i64 ((rd_T32 l0 a0).f1.f4.f0), .int .i64 ((rd_T32 l0 a0).f1.f4.f1)], .agg #[.int .i64 ((rd_T32 l1 a0).f1.f0), .int .i64 ((rd_T32 l1 a0).f1.f1), .slice u4 ((rd_T32 l1 a0).f1.f2).length E4, .slice k4 ((rd_T32 l1 a0).f1.f3).length J4, .int .i64 ((rd_T32 l1 a0).f1.f4.f0), .int .i64 ((rd_T32 l1 a0).f1.f4.f1)]] (by rfl) rfl rfl (by (try simp only [List.map_toArray, List.map_cons, List.map_nil]); first | done | rfl | (simp only [List.length_drop, List.length_take]; rfl)) ?_
       with_reducible refine (Gj.calls k1 ((rd_T32 l0 a0).f1.f0) ((rd_T32 l0 a0).f1.f1) _ _ ((rd_T32 l0 a0).f1.f2) _ _ ((rd_T32 l0 a0).f1.f3) ((rd_T32 l0 a0).f1.f4.f0) ((rd_T32 l0 a0).f1.f4.f1) ((rd_T32 l1 a0).f1.f0) ((rd_T32 l1 a0).f1.f1) _ _ ((rd_T32 l1 a0).f1.f2) _ _ ((rd_T32 l1 a0).f1.f3) ((rd_T32 l1 a0).f1.f4.f0) ((rd_T32 l1 a0).f1.f4.f1) true _ ?m5 ?s5 ?j5 ?C5 ?k5 ?A5 ?p5 ?l5 A7.out).mono ?_
       (case m5 => exact gCB L2 HB)
       (case s5 => exact S3.out)
       (case j5 => exact gCB C3 HB)
       (case C5 => exact W3.out)
       (case k5 => exact gCB I3 HB)
       (case A5 => exact N3.out)
       (case p5 => exact gCB C2 HB)
       (case l5 => exact a4.out)
       rintro e M6 ⟨rfl, hb⟩
       refine ⟨_, rfl, ?_⟩
       replace HB := tHb HB hb
       (try clear hb)
       (try clear hb2)
       (try clear hk)
       (try clear hi)
       refine hK.out _ _ (m0_ (ce HB (by first | exact V2)) (m0_ (ce HB (by first | exact U1)) (m0_ (ce HB (by first | exact i2)) (m0_ (ce HB (by first | exact Q2)) (m0_ (ce HB (by first | exact J2)) (m0_ (ce HB (by first | exact m3)) (m0_ (ce HB (by first | exact k3)) (m0_ (ce HB (by first | exact N2)) (m0_ (ce HB (by first | exact J3)) (m0_ (ce HB (by first | exact Z1)) (m0_ (ce HB (by first | exact X1)) (m0_ (ce HB (by first | exact D3)) (m0_ (ce HB (by first | exact i3)) (m0_ (ce HB (by first | exact a3)) ct)))))))))))))) (fun hHeld => ?_)
       clear hK K
       refine norm_ (a' := ?_) ?_ ?_
       rotate_left
       ·
        show Act.put _ (some 28) _ = _
        simp only [Act.put, List.setIfInBounds_toArray, List.set_cons_zero, List.set_cons_succ, i64_w, i32_w]
        rfl
       refine pu_ 11 (some 6) 4095 HT_ (h := ?_)
       refine done_ (done_of HT_.out (by kernel_rfl)) ?_
       try go_wp2
       replace HB := am_ (below_drew1 HB.out)
       have J5 : 0 ≤ (a0 : Int) := dt
       have D5 : a0 < (l0.length : Int) := dt
       obtain ⟨O5, X5, Z5, Y5, V5, c6, N1, L1, C1, X0, i1, U0, Z0, V3, X3, Z3, Q3⟩ := at_T32 m6.out a0 J5 D5
       have Y4 := Z0
       have S4 := U0
       have M4 := i1
       have P4 := X0
       have N4 := C1
       have a5 := L1
       have O4 := N1
       obtain rfl : K5 = O5 := (by injection c6)
       replace N1 := ce HB N1
       replace L1 := ce HB L1
       replace C1 := ce HB C1
       replace X0 := ce HB X0
       replace i1 := ce HB i1
       replace U0 := ce HB U0
       replace Z0 := ce HB Z0
       have Z4 := am_ X3
       have R5 := am_ V3
       clear X3 V3
       have b5 := am_ Q3
       have U5 := am_ Z3
       clear Q3 Z3
       replace J5 := eq_true J5
       replace D5 := eq_true D5
       have E5 : 0 ≤ (a0 : Int) := dt
       have I5 : a0 < (l1.length : Int) := dt
       obtain ⟨P5, j6, a6, W5, i6, b6, P1, W0, O1, Y0, D1, V0, Q1, L3, i4, Y3, U3⟩ := at_T32 o6.out a0 E5 I5
       have W4 := Q1
       have i5 := V0
       have U4 := D1
       have X4 := Y0
       have Q4 := O1
       have V4 := W0
       have L4 := P1
       obtain rfl : L5 = P5 := (by injection b6)
       replace P1 := ce HB P1
       replace W0 := ce HB W0
       replace O1 := ce HB O1
       replace Y0 := ce HB Y0
       replace D1 := ce HB D1
       replace V0 := ce HB V0
       replace Q1 := ce HB Q1
       have R4 := am_ i4
       have S5 := am_ L3
       clear i4 L3
       have c5 := am_ U3
       have Q5 := am_ Y3
       clear U3 Y3
       replace E5 := eq_true E5
       replace I5 := eq_true I5
       refine st_ 15 [] (cd_ (ce HB (by first | exact O4)) (cd_ (ce HB (by first | exact a5)) (cd_ (ce HB (by first | exact N4)) (cd_ (ce HB (by first | exact P4)) (cd_ (ce HB (by first | exact M4)) (cd_ (ce HB (by first | exact S4)) (cd_ (ce HB (by first | exact Y4)) (cd_ (ce HB (by first | exact L4)) (cd_ (ce HB (by first | exact V4)) (cd_ (ce HB (by first | exact Q4)) (cd_ (ce HB (by first | exact X4)) (cd_ (ce HB (by first | exact U4)) (cd_ (ce HB (by first | exact i5)) (cd_ (ce HB (by first | exact W4)) ct)))))))))))))) (fun hHeld => ?_); refine with_tabW F6.tab7 F6.bits7 (fun HT_ HW_ => ?_)
       generalize M6.drew = V6 at HB Z4 b5 R4 c5 N1 L1 C1 X0 i1 U0 Z0 P1 W0 O1 Y0 D1 V0 Q1 hHeld ⊢
       refine pu_ 0 (some 29) 1 HT_ (h := ?_)
       refine pu_ 1 (some 30) 3 HT_ (h := ?_)
       refine pu_ 2 (some 31) 7 HT_ (h := ?_)
       refine pu_ 3 (some 32) 15 HT_ (h := ?_)
       refine pu_ 4 (some 33) 31 HT_ (h := ?_)
       refine pu_ 5 (some 34) 63 HT_ (h := ?_)
       refine pu_ 6 (some 35) 127 HT_ (h := ?_)
       refine pu_ 8 (some 37) 383 HT_ (h := ?_)
       refine pu_ 9 (some 38) 895 HT_ (h := ?_)
       refine pu_ 10 (some 39) 1919 HT_ (h := ?_)
       refine pu_ 11 (some 40) 3967 HT_ (h := ?_)
       refine tk_ 7 (some 36) 4095 HT_ HW_ hHeld (h := ?_)
       refine tk_ 12 (some 41) 8191 HT_ HW_ hHeld (h := ?_)
       refine pu_ 13 (some 42) 16383 HT_ (h := ?_)
       refine pu_ 14 (some 43) 32767 HT_ (h := ?_)
       refine done_ (done_of HT_.out (by kernel_rfl)) ?_
       try go_wp2
       go_roundg k1
       case measure => have := J6.out; omega
       case rel => exact ⟨(wrap64 (a0 + 1)), fr, H', kS J6, ⟨bh HB⟩⟩
      rw [if_neg c9] at H
      have r6 : (((rd_T32 l0 a0).f0).toList == ((rd_T32 l1 a0).f0).toList) = false := beq_eq_false_iff_ne.mpr c9
      have s6 : (((rd_T32 l0 a0).f0).toList != ((rd_T32 l1 a0).f0).toList) = true := bne_iff_ne.mpr c9
      obtain rfl := Option.some.inj H
      try go_wp2
      replace HB := am_ (below_drew1 HB.out)
      have D4 : 0 ≤ (a0 : Int) := dt
      have l4 : a0 < (l0.length : Int) := dt
      obtain ⟨K5, K4, I4, s4, m4, M5, n0, u0, m0, Q0, N0, P0, C0, V1, l3, D2, Z2⟩ := at_T32 m6.out a0 D4 l4
      have k3 := C0
      have m3 := P0
      have J2 := N0
      have Q2 := Q0
      have i2 := m0
      have U1 := u0
      have V2 := n0
      cases M5
      replace n0 := ce HB n0
      replace u0 := ce HB u0
      replace m0 := ce HB m0
      replace Q0 := ce HB Q0
      replace N0 := ce HB N0
      replace P0 := ce HB P0
      replace C0 := ce HB C0
      have L2 := am_ l3
      have S3 := am_ V1
      clear l3 V1
      have C3 := am_ Z2
      have W3 := am_ D2
      clear Z2 D2
      replace D4 := eq_true D4
      replace l4 := eq_true l4
      have C4 : 0 ≤ (a0 : Int) := dt
      have j4 : a0 < (l1.length : Int) := dt
      obtain ⟨L5, u4, E4, k4, J4, N5, I0, o0, O0, E0, L0, M0, z0, b3, Y1, Y2, u3⟩ := at_T32 o6.out a0 C4 j4
      have a3 := z0
      have i3 := M0
      have D3 := L0
      have X1 := E0
      have Z1 := O0
      have J3 := o0
      have N2 := I0
      cases N5
      replace I0 := ce HB I0
      replace o0 := ce HB o0
      replace O0 := ce HB O0
      replace E0 := ce HB E0
      replace L0 := ce HB L0
      replace M0 := ce HB M0
      replace z0 := ce HB z0
      have I3 := am_ Y1
      have N3 := am_ b3
      clear Y1 b3
      have C2 := am_ u3
      have a4 := am_ Y2
      clear u3 Y2
      replace C4 := eq_true C4
      replace j4 := eq_true j4
      refine st_ 12 [] (cd_ (ce HB (by first | exact V2)) (cd_ (ce HB (by first | exact U1)) (cd_ (ce HB (by first | exact i2)) (cd_ (ce HB (by first | exact Q2)) (cd_ (ce HB (by first | exact J2)) (cd_ (ce HB (by first | exact m3)) (cd_ (ce HB (by first | exact k3)) (cd_ (ce HB (by first | exact N2)) (cd_ (ce HB (by first | exact J3)) (cd_ (ce HB (by first | exact Z1)) (cd_ (ce HB (by first | exact X1)) (cd_ (ce HB (by first | exact D3)) (cd_ (ce HB (by first | exact i3)) (cd_ (ce HB (by first | exact a3)) ct)))))))))))))) (fun hHeld => ?_); refine with_tabW F6.tab6 F6.bits6 (fun HT_ HW_ => ?_)
      generalize wr.drew = X6 at HB L2 C3 I3 C2 n0 u0 m0 Q0 N0 P0 C0 I0 o0 O0 E0 L0 M0 z0 hHeld ⊢
      refine pu_ 0 (some 18) 1 HT_ (h := ?_)
      refine pu_ 1 (some 19) 3 HT_ (h := ?_)
      refine pu_ 2 (some 20) 7 HT_ (h := ?_)
      refine pu_ 3 (some 21) 15 HT_ (h := ?_)
      refine pu_ 5 (some 23) 47 HT_ (h := ?_)
      refine pu_ 6 (some 24) 111 HT_ (h := ?_)
      refine pu_ 7 (some 25) 239 HT_ (h := ?_)
      refine pu_ 8 (some 26) 495 HT_ (h := ?_)
      refine tk_ 4 (some 22) 511 HT_ HW_ hHeld (h := ?_)
      refine tk_ 9 (some 27) 1023 HT_ HW_ hHeld (h := ?_)
      refine one_ (i := 10) (N := some 28) #[true, true, true, true, true, true, true, true, true, true, true, false] rfl rfl (one_of HT_.out (by kernel_rfl)) (by decide) (fun K hK => ?_)
      refine goes_ Tryz.func33 (by kernel_rfl) rfl #[.agg #[.int .i64 ((rd_T32 l0 a0).f1.f0), .int .i64 ((rd_T32 l0 a0).f1.f1), .slice K4 ((rd_T32 l0 a0).f1.f2).length I4, .slice s4 ((rd_T32 l0 a0).f1.f3).length m4, .int .i64 ((rd_T32 l0 a0).f1.f4.f0), .int .i64 ((rd_T32 l0 a0).f1.f4.f1)], .agg #[.int .i64 ((rd_T32 l1 a0).f1.f0), .int .i64 ((rd_T32 l1 a0).f1.f1), .slice u4 ((rd_T32 l1 a0).f1.f2).length E4, .slice k4 ((rd_T32 l1 a0).f1.f3).length J4, .int .i64 ((rd_T32 l1 a0).f1.f4.f0), .int .i64 ((rd_T32 l1 a0).f1.f4.f1)]] (by rfl) rfl rfl (by (try simp only [List.map_toArray, List.map_cons, List.map_nil]); first | done | rfl | (simp only [List.length_drop, List.length_take]; rfl)) ?_
      with_reducible refine (Gj.calls k1 ((rd_T32 l0 a0).f1.f0) ((rd_T32 l0 a0).f1.f1) _ _ ((rd_T32 l0 a0).f1.f2) _ _ ((rd_T32 l0 a0).f1.f3) ((rd_T32 l0 a0).f1.f4.f0) ((rd_T32 l0 a0).f1.f4.f1) ((rd_T32 l1 a0).f1.f0) ((rd_T32 l1 a0).f1.f1) _ _ ((rd_T32 l1 a0).f1.f2) _ _ ((rd_T32 l1 a0).f1.f3) ((rd_T32 l1 a0).f1.f4.f0) ((rd_T32 l1 a0).f1.f4.f1) true _ ?m5 ?s5 ?j5 ?C5 ?k5 ?A5 ?p5 ?l5 A7.out).mono ?_
      (case m5 => exact gCB L2 HB)
      (case s5 => exact S3.out)
      (case j5 => exact gCB C3 HB)
      (case C5 => exact W3.out)
      (case k5 => exact gCB I3 HB)
      (case A5 => exact N3.out)
      (case p5 => exact gCB C2 HB)
      (case l5 => exact a4.out)
      rintro e L6 ⟨rfl, hb⟩
      refine ⟨_, rfl, ?_⟩
      replace HB := tHb HB hb
      (try clear hb)
      (try clear hb2)
      (try clear hk)
      (try clear hi)
      refine hK.out _ _ (m0_ (ce HB (by first | exact V2)) (m0_ (ce HB (by first | exact U1)) (m0_ (ce HB (by first | exact i2)) (m0_ (ce HB (by first | exact Q2)) (m0_ (ce HB (by first | exact J2)) (m0_ (ce HB (by first | exact m3)) (m0_ (ce HB (by first | exact k3)) (m0_ (ce HB (by first | exact N2)) (m0_ (ce HB (by first | exact J3)) (m0_ (ce HB (by first | exact Z1)) (m0_ (ce HB (by first | exact X1)) (m0_ (ce HB (by first | exact D3)) (m0_ (ce HB (by first | exact i3)) (m0_ (ce HB (by first | exact a3)) ct)))))))))))))) (fun hHeld => ?_)
      clear hK K
      refine norm_ (a' := ?_) ?_ ?_
      rotate_left
      ·
       show Act.put _ (some 28) _ = _
       simp only [Act.put, List.setIfInBounds_toArray, List.set_cons_zero, List.set_cons_succ, i64_w, i32_w]
       rfl
      refine pu_ 11 (some 6) 4095 HT_ (h := ?_)
      refine done_ (done_of HT_.out (by kernel_rfl)) ?_
      try go_wp2
      replace HB := am_ (below_drew1 HB.out)
      have J5 : 0 ≤ (a0 : Int) := dt
      have D5 : a0 < (l0.length : Int) := dt
      obtain ⟨O5, X5, Z5, Y5, V5, c6, N1, L1, C1, X0, i1, U0, Z0, V3, X3, Z3, Q3⟩ := at_T32 m6.out a0 J5 D5
      have Y4 := Z0
      have S4 := U0
      have M4 := i1
      have P4 := X0
      have N4 := C1
      have a5 := L1
      have O4 := N1
      obtain rfl : K5 = O5 := (by injection c6)
      replace N1 := ce HB N1
      replace L1 := ce HB L1
      replace C1 := ce HB C1
      replace X0 := ce HB X0
      replace i1 := ce HB i1
      replace U0 := ce HB U0
      replace Z0 := ce HB Z0
      have Z4 := am_ X3
      have R5 := am_ V3
      clear X3 V3
      have b5 := am_ Q3
      have U5 := am_ Z3
      clear Q3 Z3
      replace J5 := eq_true J5
      replace D5 := eq_true D5
      have E5 : 0 ≤ (a0 : Int) := dt
      have I5 : a0 < (l1.length : Int) := dt
      obtain ⟨P5, j6, a6, W5, i6, b6, P1, W0, O1, Y0, D1, V0, Q1, L3, i4, Y3, U3⟩ := at_T32 o6.out a0 E5 I5
      have W4 := Q1
      have i5 := V0
      have U4 := D1
      have X4 := Y0
      have Q4 := O1
      have V4 := W0
      have L4 := P1
      obtain rfl : L5 = P5 := (by injection b6)
      replace P1 := ce HB P1
      replace W0 := ce HB W0
      replace O1 := ce HB O1
      replace Y0 := ce HB Y0
      replace D1 := ce HB D1
      replace V0 := ce HB V0
      replace Q1 := ce HB Q1
      have R4 := am_ i4
      have S5 := am_ L3
      clear i4 L3
      have c5 := am_ U3
      have Q5 := am_ Y3
      clear U3 Y3
      replace E5 := eq_true E5
      replace I5 := eq_true I5
      refine st_ 15 [] (cd_ (ce HB (by first | exact O4)) (cd_ (ce HB (by first | exact a5)) (cd_ (ce HB (by first | exact N4)) (cd_ (ce HB (by first | exact P4)) (cd_ (ce HB (by first | exact M4)) (cd_ (ce HB (by first | exact S4)) (cd_ (ce HB (by first | exact Y4)) (cd_ (ce HB (by first | exact L4)) (cd_ (ce HB (by first | exact V4)) (cd_ (ce HB (by first | exact Q4)) (cd_ (ce HB (by first | exact X4)) (cd_ (ce HB (by first | exact U4)) (cd_ (ce HB (by first | exact i5)) (cd_ (ce HB (by first | exact W4)) ct)))))))))))))) (fun hHeld => ?_); refine with_tabW F6.tab7 F6.bits7 (fun HT_ HW_ => ?_)
      generalize L6.drew = U6 at HB Z4 b5 R4 c5 N1 L1 C1 X0 i1 U0 Z0 P1 W0 O1 Y0 D1 V0 Q1 hHeld ⊢
      refine pu_ 0 (some 29) 1 HT_ (h := ?_)
      refine pu_ 1 (some 30) 3 HT_ (h := ?_)
      refine pu_ 2 (some 31) 7 HT_ (h := ?_)
      refine pu_ 3 (some 32) 15 HT_ (h := ?_)
      refine pu_ 4 (some 33) 31 HT_ (h := ?_)
      refine pu_ 5 (some 34) 63 HT_ (h := ?_)
      refine pu_ 6 (some 35) 127 HT_ (h := ?_)
      refine pu_ 8 (some 37) 383 HT_ (h := ?_)
      refine pu_ 9 (some 38) 895 HT_ (h := ?_)
      refine pu_ 10 (some 39) 1919 HT_ (h := ?_)
      refine pu_ 11 (some 40) 3967 HT_ (h := ?_)
      refine tk_ 7 (some 36) 4095 HT_ HW_ hHeld (h := ?_)
      refine tk_ 12 (some 41) 8191 HT_ HW_ hHeld (h := ?_)
      refine pu_ 13 (some 42) 16383 HT_ (h := ?_)
      refine pu_ 14 (some 43) 32767 HT_ (h := ?_)
      refine done_ (done_of HT_.out (by kernel_rfl)) ?_
      try go_wp2
      go_ret
      exact ⟨fe, bh HB⟩
     replace c8 := Bool.eq_false_iff.mpr c8
     subst c8
     rw [if_neg (show ¬ (false = true) by decide)] at H
     obtain rfl := Option.some.inj H
     try go_wp2
     replace HB := am_ (below_drew1 HB.out)
     have D4 : 0 ≤ (a0 : Int) := dt
     have l4 : a0 < (l0.length : Int) := dt
     obtain ⟨K5, K4, I4, s4, m4, M5, n0, u0, m0, Q0, N0, P0, C0, V1, l3, D2, Z2⟩ := at_T32 m6.out a0 D4 l4
     have k3 := C0
     have m3 := P0
     have J2 := N0
     have Q2 := Q0
     have i2 := m0
     have U1 := u0
     have V2 := n0
     cases M5
     replace n0 := ce HB n0
     replace u0 := ce HB u0
     replace m0 := ce HB m0
     replace Q0 := ce HB Q0
     replace N0 := ce HB N0
     replace P0 := ce HB P0
     replace C0 := ce HB C0
     have L2 := am_ l3
     have S3 := am_ V1
     clear l3 V1
     have C3 := am_ Z2
     have W3 := am_ D2
     clear Z2 D2
     replace D4 := eq_true D4
     replace l4 := eq_true l4
     have C4 : 0 ≤ (a0 : Int) := dt
     have j4 : a0 < (l1.length : Int) := dt
     obtain ⟨L5, u4, E4, k4, J4, N5, I0, o0, O0, E0, L0, M0, z0, b3, Y1, Y2, u3⟩ := at_T32 o6.out a0 C4 j4
     have a3 := z0
     have i3 := M0
     have D3 := L0
     have X1 := E0
     have Z1 := O0
     have J3 := o0
     have N2 := I0
     cases N5
     replace I0 := ce HB I0
     replace o0 := ce HB o0
     replace O0 := ce HB O0
     replace E0 := ce HB E0
     replace L0 := ce HB L0
     replace M0 := ce HB M0
     replace z0 := ce HB z0
     have I3 := am_ Y1
     have N3 := am_ b3
     clear Y1 b3
     have C2 := am_ u3
     have a4 := am_ Y2
     clear u3 Y2
     replace C4 := eq_true C4
     replace j4 := eq_true j4
     refine st_ 12 [] (cd_ (ce HB (by first | exact V2)) (cd_ (ce HB (by first | exact U1)) (cd_ (ce HB (by first | exact i2)) (cd_ (ce HB (by first | exact Q2)) (cd_ (ce HB (by first | exact J2)) (cd_ (ce HB (by first | exact m3)) (cd_ (ce HB (by first | exact k3)) (cd_ (ce HB (by first | exact N2)) (cd_ (ce HB (by first | exact J3)) (cd_ (ce HB (by first | exact Z1)) (cd_ (ce HB (by first | exact X1)) (cd_ (ce HB (by first | exact D3)) (cd_ (ce HB (by first | exact i3)) (cd_ (ce HB (by first | exact a3)) ct)))))))))))))) (fun hHeld => ?_); refine with_tabW F6.tab6 F6.bits6 (fun HT_ HW_ => ?_)
     generalize wr.drew = w16 at HB L2 C3 I3 C2 n0 u0 m0 Q0 N0 P0 C0 I0 o0 O0 E0 L0 M0 z0 hHeld ⊢
     refine pu_ 0 (some 18) 1 HT_ (h := ?_)
     refine pu_ 1 (some 19) 3 HT_ (h := ?_)
     refine pu_ 2 (some 20) 7 HT_ (h := ?_)
     refine pu_ 3 (some 21) 15 HT_ (h := ?_)
     refine pu_ 5 (some 23) 47 HT_ (h := ?_)
     refine pu_ 6 (some 24) 111 HT_ (h := ?_)
     refine pu_ 7 (some 25) 239 HT_ (h := ?_)
     refine pu_ 8 (some 26) 495 HT_ (h := ?_)
     refine tk_ 4 (some 22) 511 HT_ HW_ hHeld (h := ?_)
     refine tk_ 9 (some 27) 1023 HT_ HW_ hHeld (h := ?_)
     refine one_ (i := 10) (N := some 28) #[true, true, true, true, true, true, true, true, true, true, true, false] rfl rfl (one_of HT_.out (by kernel_rfl)) (by decide) (fun K hK => ?_)
     refine goes_ Tryz.func33 (by kernel_rfl) rfl #[.agg #[.int .i64 ((rd_T32 l0 a0).f1.f0), .int .i64 ((rd_T32 l0 a0).f1.f1), .slice K4 ((rd_T32 l0 a0).f1.f2).length I4, .slice s4 ((rd_T32 l0 a0).f1.f3).length m4, .int .i64 ((rd_T32 l0 a0).f1.f4.f0), .int .i64 ((rd_T32 l0 a0).f1.f4.f1)], .agg #[.int .i64 ((rd_T32 l1 a0).f1.f0), .int .i64 ((rd_T32 l1 a0).f1.f1), .slice u4 ((rd_T32 l1 a0).f1.f2).length E4, .slice k4 ((rd_T32 l1 a0).f1.f3).length J4, .int .i64 ((rd_T32 l1 a0).f1.f4.f0), .int .i64 ((rd_T32 l1 a0).f1.f4.f1)]] (by rfl) rfl rfl (by (try simp only [List.map_toArray, List.map_cons, List.map_nil]); first | done | rfl | (simp only [List.length_drop, List.length_take]; rfl)) ?_
     with_reducible refine (Gj.calls k1 ((rd_T32 l0 a0).f1.f0) ((rd_T32 l0 a0).f1.f1) _ _ ((rd_T32 l0 a0).f1.f2) _ _ ((rd_T32 l0 a0).f1.f3) ((rd_T32 l0 a0).f1.f4.f0) ((rd_T32 l0 a0).f1.f4.f1) ((rd_T32 l1 a0).f1.f0) ((rd_T32 l1 a0).f1.f1) _ _ ((rd_T32 l1 a0).f1.f2) _ _ ((rd_T32 l1 a0).f1.f3) ((rd_T32 l1 a0).f1.f4.f0) ((rd_T32 l1 a0).f1.f4.f1) false _ ?m5 ?s5 ?j5 ?C5 ?k5 ?A5 ?p5 ?l5 A7.out).mono ?_
     (case m5 => exact gCB L2 HB)
     (case s5 => exact S3.out)
     (case j5 => exact gCB C3 HB)
     (case C5 => exact W3.out)
     (case k5 => exact gCB I3 HB)
     (case A5 => exact N3.out)
     (case p5 => exact gCB C2 HB)
     (case l5 => exact a4.out)
     rintro e N6 ⟨rfl, hb⟩
     refine ⟨_, rfl, ?_⟩
     replace HB := tHb HB hb
     (try clear hb)
     (try clear hb2)
     (try clear hk)
     (try clear hi)
     refine hK.out _ _ (m0_ (ce HB (by first | exact V2)) (m0_ (ce HB (by first | exact U1)) (m0_ (ce HB (by first | exact i2)) (m0_ (ce HB (by first | exact Q2)) (m0_ (ce HB (by first | exact J2)) (m0_ (ce HB (by first | exact m3)) (m0_ (ce HB (by first | exact k3)) (m0_ (ce HB (by first | exact N2)) (m0_ (ce HB (by first | exact J3)) (m0_ (ce HB (by first | exact Z1)) (m0_ (ce HB (by first | exact X1)) (m0_ (ce HB (by first | exact D3)) (m0_ (ce HB (by first | exact i3)) (m0_ (ce HB (by first | exact a3)) ct)))))))))))))) (fun hHeld => ?_)
     clear hK K
     refine norm_ (a' := ?_) ?_ ?_
     rotate_left
     ·
      show Act.put _ (some 28) _ = _
      simp only [Act.put, List.setIfInBounds_toArray, List.set_cons_zero, List.set_cons_succ, i64_w, i32_w]
      rfl
     refine pu_ 11 (some 6) 4095 HT_ (h := ?_)
     refine done_ (done_of HT_.out (by kernel_rfl)) ?_
     try go_wp2
     replace HB := am_ (below_drew1 HB.out)
     refine start_ (n := 15) (S := fun w' => True) (ds := []) #[false, false, false, false, false, false, false, false, false, false, false, false, false, false, false] (by kernel_rfl) rfl rfl trivial (fun hHeld => ?_); refine with_tabW F6.tab7 F6.bits7 (fun HT_ HW_ => ?_)
     generalize N6.drew = Q6 at HB hHeld ⊢
     refine pu_ 0 (some 29) 1 HT_ (h := ?_)
     refine pu_ 1 (some 30) 3 HT_ (h := ?_)
     refine pu_ 2 (some 31) 7 HT_ (h := ?_)
     refine pure_ (i := 3) (N := some 32) (v := undef) (a' := ?_) #[true, true, true, true, false, false, false, false, false, false, false, false, false, false, false] rfl rfl (any_of HT_.out (by kernel_rfl)) (fun _ _ _ h => h) (Or.inr ⟨by rfl, rfl⟩) ?_ ?_
     rotate_left
     ·
      simp only [Act.put, List.setIfInBounds_toArray, List.set_cons_zero, List.set_cons_succ, i64_w, i32_w]
      rfl
     refine pure_ (i := 4) (N := some 33) (v := undef) (a' := ?_) #[true, true, true, true, true, false, false, false, false, false, false, false, false, false, false] rfl rfl (any_of HT_.out (by kernel_rfl)) (fun _ _ _ h => h) (Or.inr ⟨by rfl, rfl⟩) ?_ ?_
     rotate_left
     ·
      simp only [Act.put, List.setIfInBounds_toArray, List.set_cons_zero, List.set_cons_succ, i64_w, i32_w]
      rfl
     refine pure_ (i := 5) (N := some 34) (v := undef) (a' := ?_) #[true, true, true, true, true, true, false, false, false, false, false, false, false, false, false] rfl rfl (any_of HT_.out (by kernel_rfl)) (fun _ _ _ h => h) (Or.inr ⟨by rfl, rfl⟩) ?_ ?_
     rotate_left
     ·
      simp only [Act.put, List.setIfInBounds_toArray, List.set_cons_zero, List.set_cons_succ, i64_w, i32_w]
      rfl
     refine pure_ (i := 6) (N := some 35) (v := undef) (a' := ?_) #[true, true, true, true, true, true, true, false, false, false, false, false, false, false, false] rfl rfl (any_of HT_.out (by kernel_rfl)) (fun _ _ _ h => h) (Or.inr ⟨by rfl, rfl⟩) ?_ ?_
     rotate_left
     ·
      simp only [Act.put, List.setIfInBounds_toArray, List.set_cons_zero, List.set_cons_succ, i64_w, i32_w]
      rfl
     refine pure_ (i := 7) (N := some 36) (v := undef) (a' := ?_) #[true, true, true, true, true, true, true, true, false, false, false, false, false, false, false] rfl rfl (any_of HT_.out (by kernel_rfl)) (fun _ _ _ h => h) (Or.inr ⟨by rfl, rfl⟩) ?_ ?_
     rotate_left
     ·
      simp only [Act.put, List.setIfInBounds_toArray, List.set_cons_zero, List.set_cons_succ, i64_w, i32_w]
      rfl
     refine pure_ (i := 8) (N := some 37) (v := undef) (a' := ?_) #[true, true, true, true, true, true, true, true, true, false, false, false, false, false, false] rfl rfl (any_of HT_.out (by kernel_rfl)) (fun _ _ _ h => h) (Or.inr ⟨by rfl, rfl⟩) ?_ ?_
     rotate_left
     ·
      simp only [Act.put, List.setIfInBounds_toArray, List.set_cons_zero, List.set_cons_succ, i64_w, i32_w]
      rfl
     refine pure_ (i := 9) (N := some 38) (v := undef) (a' := ?_) #[true, true, true, true, true, true, true, true, true, true, false, false, false, false, false] rfl rfl (any_of HT_.out (by kernel_rfl)) (fun _ _ _ h => h) (Or.inr ⟨by rfl, rfl⟩) ?_ ?_
     rotate_left
     ·
      simp only [Act.put, List.setIfInBounds_toArray, List.set_cons_zero, List.set_cons_succ, i64_w, i32_w]
      rfl
     refine pure_ (i := 10) (N := some 39) (v := undef) (a' := ?_) #[true, true, true, true, true, true, true, true, true, true, true, false, false, false, false] rfl rfl (any_of HT_.out (by kernel_rfl)) (fun _ _ _ h => h) (Or.inr ⟨by rfl, rfl⟩) ?_ ?_
     rotate_left
     ·
      simp only [Act.put, List.setIfInBounds_toArray, List.set_cons_zero, List.set_cons_succ, i64_w, i32_w]
      rfl
     refine pure_ (i := 11) (N := some 40) (v := undef) (a' := ?_) #[true, true, true, true, true, true, true, true, true, true, true, true, false, false, false] rfl rfl (any_of HT_.out (by kernel_rfl)) (fun _ _ _ h => h) (Or.inr ⟨by rfl, rfl⟩) ?_ ?_
     rotate_left
     ·
      simp only [Act.put, List.setIfInBounds_toArray, List.set_cons_zero, List.set_cons_succ, i64_w, i32_w]
      rfl
     refine pure_ (i := 12) (N := some 41) (v := undef) (a' := ?_) #[true, true, true, true, true, true, true, true, true, true, true, true, true, false, false] rfl rfl (any_of HT_.out (by kernel_rfl)) (fun _ _ _ h => h) (Or.inr ⟨by rfl, rfl⟩) ?_ ?_
     rotate_left
     ·
      simp only [Act.put, List.setIfInBounds_toArray, List.set_cons_zero, List.set_cons_succ, i64_w, i32_w]
      rfl
     refine pure_ (i := 13) (N := some 42) (v := undef) (a' := ?_) #[true, true, true, true, true, true, true, true, true, true, true, true, true, true, false] rfl rfl (any_of HT_.out (by kernel_rfl)) (fun _ _ _ h => h) (Or.inr ⟨by rfl, rfl⟩) ?_ ?_
     rotate_left
     ·
      simp only [Act.put, List.setIfInBounds_toArray, List.set_cons_zero, List.set_cons_succ, i64_w, i32_w]
      rfl
     refine pu_ 14 (some 43) 32767 HT_ (h := ?_)
     refine done_ (done_of HT_.out (by kernel_rfl)) ?_
     try go_wp2
     go_ret
     exact ⟨fe, bh HB⟩
    rw [if_neg c4] at H
    have z6 : decide (a0 < (l0.length : Int)) = false := decide_eq_false c4
    clear c4
    obtain rfl := Option.some.inj H
    go_wp2
    go_ret
    exact ⟨fe, bh HB⟩
 rw [if_neg c3] at H
 have p6 : ((l0.length : Int) == (l1.length : Int)) = false := beq_eq_false_iff_ne.mpr c3
 have l6 : ((l0.length : Int) != (l1.length : Int)) = true := bne_iff_ne.mpr c3
 have k6 : (l0.length == l1.length) = false := by first | simpa using c3 | (simp at c3 ⊢; omega)
 obtain rfl := Option.some.inj H
 go_enter Tryz.func13, Tryz.ntmps13
 go_wp2
 go_ret
 exact ⟨fe, bh HB⟩

end Go.Proofs.YtopijobdblfhoaaGreat.PTuskAsks
