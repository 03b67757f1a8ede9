-- written by a program of this session (pp.py), out of the kit's print and this session's contracts
import Derived.Test.YtopijobdblfhoaaGreatPTuskAsksx0
import Derived.Test.YtopijobdblfhoaaGreatVTuskAsksPi
namespace Go.Proofs.YtopijobdblfhoaaGreat.PTuskAsks
open Go.RowKit Go.Proofs.YtopijobdblfhoaaGreatW.PrintWords Go.Proofs.YtopijobdblfhoaaGreatW.PrintLast Go.Proofs.YtopijobdblfhoaaGreatW.PrintMore
set_option linter.unusedVariables false
set_option linter.unusedSimpArgs false

def Fb.l0 : Nat → Int → Int → Int → Int → Int → List (S32) → Option (ByteArray × Int × Int × (List (S107)) × List ByteArray × Int × Int × Bool)
 | 0, _, _, _, _, _, _ => none
 | k + 1, x1, x2, x8, m0, n0, a0 => if x8 < (a0.length : Int) then (if 0 ≤ x8 then (if ((rd_T32 a0 x8).f1.f0) = x1 then (if ((rd_T32 a0 x8).f1.f1) = x2 then (some ((rd_T32 a0 x8).f0, (rd_T32 a0 x8).f1.f0, (rd_T32 a0 x8).f1.f1, (rd_T32 a0 x8).f1.f2, (rd_T32 a0 x8).f1.f3, (rd_T32 a0 x8).f1.f4.f0, (rd_T32 a0 x8).f1.f4.f1, true)) else (Fb.l0 k x1 x2 (wrap64 (x8 + 1)) m0 n0 a0)) else (Fb.l0 k x1 x2 (wrap64 (x8 + 1)) m0 n0 a0)) else (none)) else (some ((⟨#[]⟩ : ByteArray), 0, 0, ([] : List (S107)), ([] : List ByteArray), 0, 0, false))
def Fb.f (k : Nat) (a0_0 : Int) (a0_1 : Int) (l0_2 : List (S32)) (a1 : Int) (a2 : Int) : Option (ByteArray × Int × Int × (List (S107)) × List ByteArray × Int × Int × Bool) := Fb.l0 k a1 a2 0 a0_0 a0_1 l0_2
theorem Fb.mono_l : ∀ k, (∀ y0 y1 y2 y3 y4 y5, LeO (Fb.l0 k y0 y1 y2 y3 y4 y5) (Fb.l0 (k + 1) y0 y1 y2 y3 y4 y5))
 | 0 => fun _ _ _ _ _ _ r h => by simp [Fb.l0] at h
 | k + 1 => by
  have a0 := Fb.mono_l k
  ·
   intro y0 y1 y2 y3 y4 y5
   unfold Fb.l0
   repeat' first | (with_reducible first | exact a0 _ _ _ _ _ _ | exact LeO.refl _ | exact LeO.none _ | refine LeO.ite ?_ ?_ | refine LeO.bind ?_ (fun _ => ?_)) | exact a0 _ _ _ _ _ _ | refine LeO.ite ?_ ?_ | refine LeO.bind ?_ (fun _ => ?_)
theorem Fb.mono : ∀ a0 a1 a2 a3 a4 k, LeO (Fb.f k a0 a1 a2 a3 a4) (Fb.f (k + 1) a0 a1 a2 a3 a4) := by
 intro a0 a1 a2 a3 a4 k
 have m0 := Fb.mono_l k
 unfold Fb.f
 repeat' first | (with_reducible first | exact m0 _ _ _ _ _ _ | exact LeO.refl _ | exact LeO.none _ | refine LeO.ite ?_ ?_ | refine LeO.bind ?_ (fun _ => ?_)) | exact m0 _ _ _ _ _ _ | refine LeO.ite ?_ ?_ | refine LeO.bind ?_ (fun _ => ?_)
set_option maxHeartbeats 8000000 in
set_option maxRecDepth 100000 in
theorem Fb.calls (k : Nat) (a0_0 : Int) (a0_1 : Int) (l3 : Nat → Prop) (A0_2 : Option Addr) (c0_2 : Nat) (l0_2 : List (S32)) (a1 : Int) (a2 : Int) (r1 : ByteArray) (r2 : Int) (r3 : Int) (r4 : List (S107)) (r5 : List ByteArray) (r6 : Int) (r7 : Int) (r8 : Bool) (w : World) (L5 : Kd.V k32 32 w w.heap.size (fun k_ => l3 k_) (.slice A0_2 l0_2.length c0_2) l0_2) (h : Fb.f k a0_0 a0_1 l0_2 a1 a2 = some (r1, r2, r3, r4, r5, r6, r7, r8)) :
  Calls Tryz.prog 30 #[.agg #[.int .i64 a0_0, .int .i64 a0_1, .slice A0_2 l0_2.length c0_2], .int .i64 a1, .int .i64 a2] w fun e w' => ∃ J6 E6 : Value, e = .returned (.tuple #[.agg #[.string r1, .int .i64 r2, .int .i64 r3, J6, E6, .int .i64 r6, .int .i64 r7], .bool r8]) ∧ Kd.V k107 107 w' w.heap.size (fun k_ => (l3 k_ ∨ w.heap.size ≤ k_)) J6 r4 ∧ Kd.V Kd.string 9 w' w.heap.size (fun k_ => (l3 k_ ∨ w.heap.size ≤ k_)) E6 r5 ∧ Below w.heap.size w w' := by
 have L6 := Tryz.underlying24
 have M6 := Tryz.underlying32
 have k3 := am_ (show Kd.V k32 32 w w.heap.size (fun k_ => (l3 k_ ∨ w.heap.size ≤ k_)) (.slice A0_2 l0_2.length c0_2) l0_2 from Kd.V_mono L5 (fun k_ hk => .inl hk))
 have HB := am_ (Below.refl w.heap.size w)
 have H : (Fb.l0 k a1 a2 0 a0_0 a0_1 l0_2) = some (r1, r2, r3, r4, r5, r6, r7, r8) := h
 clear h
 have H' := am_ H
 clear H
 go_enter Tryz.func30, Tryz.ntmps30
 go_wp2_with (first | ((with_reducible refine gd_ 3 ?_); refine be_ 3 #[.int .i64 a0_0, .int .i64 a0_1, .slice A0_2 l0_2.length c0_2] 24 ?_; intro m5 hg w4 hbox hb; replace k3 := tVe k3 hg hb; have Y0 := am_ hbox; have I6 := tG HB hg; have C6 := tG HB hg; replace HB := tHb HB hb; clear hb hbox hg) | ((with_reducible refine gd_ 6 ?_); refine be_ 6 #[.string (⟨#[]⟩ : ByteArray), .int .i64 0, .int .i64 0, .slice none 0 0, .slice none 0 0, .int .i64 0, .int .i64 0] 32 ?_; intro S3 hg w5 hbox hb; replace k3 := tVe k3 hg hb; have C2 := am_ hbox; have A6 := tG HB hg; have K6 := tG HB hg; replace HB := tHb HB hb; obtain ⟨D1, J5⟩ := tN Y0 hg; replace Y0 := tBb Y0 hb; clear hb hbox hg))
 go_loopg [8] k (fun kq v8 w' => ∃ (a0 : Int) (L1 : ByteArray) (N1 : Int) (C1 : Int) (Z0 : Int) (i1 : Int), v8 = .int .i64 a0 ∧ Asc (Fb.l0 kq a1 a2 a0 a0_0 a0_1 l0_2 = some (r1, r2, r3, r4, r5, r6, r7, r8)) ∧ Asc (kq ≤ k) ∧ Asc (Kd.V k32 32 w' w.heap.size (fun k_ => (l3 k_ ∨ w.heap.size ≤ k_) ∧ k_ ≠ m5 ∧ k_ ≠ S3) (.slice A0_2 l0_2.length c0_2) l0_2) ∧ Asc (w'.heap[m5]? = some (.cells #[.int .i64 a0_0, .int .i64 a0_1, (.slice A0_2 l0_2.length c0_2)] 24 (0, 0))) ∧ Asc (w'.heap[S3]? = some (.cells #[.string L1, .int .i64 N1, .int .i64 C1, (.slice none 0 0), (.slice none 0 0), .int .i64 Z0, .int .i64 i1] 32 (0, 0))) ∧ Asc (Below w.heap.size w w'))
 case atStart => exact ⟨(0), ((⟨#[]⟩ : ByteArray)), (0), (0), (0), (0), fr, H', ⟨Nat.le_refl _⟩, ⟨gV k3⟩, ⟨gB Y0⟩, ⟨gB C2⟩, ⟨bh HB⟩⟩
 case round =>
  clear H'
  obtain ⟨a0, L1, N1, C1, Z0, i1, rfl, HA, X5, HO_244002, Y0, C2, HB⟩ := hrel
  cases gk with
  | zero => exact absurd HA.out (by simp [Fb.l0])
  | succ k1 =>
   have H := HA.out
   clear HA
   simp only [Fb.l0] at H
   by_cases c6 : a0 < (l0_2.length : Int)
   ·
    rw [if_pos c6] at H
    have i6 : decide (a0 < (l0_2.length : Int)) = true := decide_eq_true c6
    clear c6
    revert H
    refine gi (fun N6 H => ?_)
    by_cases c8 : ((rd_T32 l0_2 a0).f1.f0) = a1
    ·
     rw [if_pos c8] at H
     have q6 : (((rd_T32 l0_2 a0).f1.f0) == a1) = true := beq_iff_eq.mpr c8
     have l6 : (((rd_T32 l0_2 a0).f1.f0) != a1) = false := bne_eq_false_iff_eq.mpr c8
     clear c8
     by_cases c9 : ((rd_T32 l0_2 a0).f1.f1) = a2
     ·
      rw [if_pos c9] at H
      have m6 : (((rd_T32 l0_2 a0).f1.f1) == a2) = true := beq_iff_eq.mpr c9
      have o6 : (((rd_T32 l0_2 a0).f1.f1) != a2) = false := bne_eq_false_iff_eq.mpr c9
      clear c9
      simp only [Option.some.injEq, Prod.mk.injEq] at H
      obtain ⟨rfl, rfl, rfl, rfl, rfl, rfl, rfl, rfl⟩ := H
      obtain ⟨_, _⟩ := n2 D1
      obtain ⟨_, _, _, _, _, _⟩ := bx3 Y0
      have P1 : 0 ≤ (a0 : Int) := dt
      have V1 : a0 < (l0_2.length : Int) := dt
      obtain ⟨i3, L3, u3, m3, I3, K4, V3, E4, a4, M0, L0, i4, m4, O0, P0, Q0, N0⟩ := at_T32 (Kd.V_reads' HO_244002.out).2.2 a0 P1 V1
      cases K4
      obtain ⟨l5, L2, N2, I0⟩ := Kd.V_get HO_244002.out z32 a0 P1 (by first | exact V1 | exact dt | (have e_ := (Kd.V_reads' HO_244002.out).1; omega))
      obtain ⟨Y3, Q3, W3, N3, rfl, z0, u0, o0, A0⟩ := k32_openF N2
      have m0 := I0 3 _ rfl
      rw [add_field _ _ 3 (by omega)] at m0
      replace m0 := Option.some.inj (m0.symm.trans M0)
      injection m0 with hva_ hvn_ hvc_
      rw [hva_] at u0
      rw [hvc_] at z0
      have l4 := am_ (show Kd.V k107 107 _ w.heap.size _ _ ((rd_T32 l0_2 a0).f1.f2) from Kd.V_mk z0 u0)
      clear hva_ hvn_ hvc_ u0 z0
      have n0 := I0 4 _ rfl
      rw [add_field _ _ 4 (by omega)] at n0
      replace n0 := Option.some.inj (n0.symm.trans L0)
      injection n0 with hva_ hvn_ hvc_
      rw [hva_] at A0
      rw [hvc_] at o0
      have I4 := am_ (show Kd.V Kd.string 9 _ w.heap.size _ _ ((rd_T32 l0_2 a0).f1.f3) from Kd.V_mk o0 A0)
      clear hva_ hvn_ hvc_ A0 o0 I0 L2
      have J4 := am_ P0
      have C4 := am_ O0
      clear P0 O0
      have D4 := am_ N0
      have X3 := am_ Q0
      clear N0 Q0
      replace P1 := eq_true P1
      replace V1 := eq_true V1
      have V2 : 0 ≤ (a0 : Int) := dt
      have Y2 : a0 < (l0_2.length : Int) := dt
      obtain ⟨L4, A5, s5, C5, E5, p5, j5, M4, k5, Q1, Y1, W4, S4, U1, X1, i2, Z1⟩ := at_T32 (Kd.V_reads' HO_244002.out).2.2 a0 V2 Y2
      obtain rfl : i3 = L4 := (by injection p5)
      obtain ⟨M5, J3, C3, O1⟩ := Kd.V_get HO_244002.out z32 a0 V2 (by first | exact Y2 | exact dt | (have e_ := (Kd.V_reads' HO_244002.out).1; omega))
      obtain ⟨Q4, U4, a5, V4, rfl, V0, W0, X0, U0⟩ := k32_openF C3
      have E0 := O1 3 _ rfl
      rw [add_field _ _ 3 (by omega)] at E0
      replace E0 := Option.some.inj (E0.symm.trans Q1)
      injection E0 with hva_ hvn_ hvc_
      rw [hva_] at W0
      rw [hvc_] at V0
      have Y4 := am_ (show Kd.V k107 107 _ w.heap.size _ _ ((rd_T32 l0_2 a0).f1.f2) from Kd.V_mk V0 W0)
      clear hva_ hvn_ hvc_ W0 V0
      have C0 := O1 4 _ rfl
      rw [add_field _ _ 4 (by omega)] at C0
      replace C0 := Option.some.inj (C0.symm.trans Y1)
      injection C0 with hva_ hvn_ hvc_
      rw [hva_] at U0
      rw [hvc_] at X0
      have O4 := am_ (show Kd.V Kd.string 9 _ w.heap.size _ _ ((rd_T32 l0_2 a0).f1.f3) from Kd.V_mk X0 U0)
      clear hva_ hvn_ hvc_ U0 X0 O1 J3
      have i5 := am_ X1
      have c5 := am_ U1
      clear X1 U1
      have R4 := am_ Z1
      have b5 := am_ i2
      clear Z1 i2
      replace V2 := eq_true V2
      replace Y2 := eq_true Y2
      have ea_ := Option.some.inj (M0.symm.trans Q1)
      injection ea_ with ea_ en_ ec_
      subst ea_
      subst ec_
      clear en_
      have ea_ := Option.some.inj (L0.symm.trans Y1)
      injection ea_ with ea_ en_ ec_
      subst ea_
      subst ec_
      clear en_
      have X4 : 0 ≤ (a0 : Int) := dt
      have Z4 : a0 < (l0_2.length : Int) := dt
      obtain ⟨K5, k6, s6, j6, z6, p6, b6, W5, R5, s4, k4, Z5, N5, U3, u4, j4, Z3⟩ := at_T32 (Kd.V_reads' HO_244002.out).2.2 a0 X4 Z4
      obtain rfl : i3 = K5 := (by injection p6)
      obtain ⟨D6, I5, D5, D3⟩ := Kd.V_get HO_244002.out z32 a0 X4 (by first | exact Z4 | exact dt | (have e_ := (Kd.V_reads' HO_244002.out).1; omega))
      obtain ⟨a6, S5, P5, Q5, rfl, b3, Q2, a3, Z2⟩ := k32_openF D5
      have J2 := D3 3 _ rfl
      rw [add_field _ _ 3 (by omega)] at J2
      replace J2 := Option.some.inj (J2.symm.trans s4)
      injection J2 with hva_ hvn_ hvc_
      rw [hva_] at Q2
      rw [hvc_] at b3
      have P4 := am_ (show Kd.V k107 107 _ w.heap.size _ _ ((rd_T32 l0_2 a0).f1.f2) from Kd.V_mk b3 Q2)
      clear hva_ hvn_ hvc_ Q2 b3
      have D2 := D3 4 _ rfl
      rw [add_field _ _ 4 (by omega)] at D2
      replace D2 := Option.some.inj (D2.symm.trans k4)
      injection D2 with hva_ hvn_ hvc_
      rw [hva_] at Z2
      rw [hvc_] at a3
      have N4 := am_ (show Kd.V Kd.string 9 _ w.heap.size _ _ ((rd_T32 l0_2 a0).f1.f3) from Kd.V_mk a3 Z2)
      clear hva_ hvn_ hvc_ Z2 a3 D3 I5
      have U5 := am_ u4
      have V5 := am_ U3
      clear u4 U3
      have Y5 := am_ Z3
      have O5 := am_ j4
      clear Z3 j4
      replace X4 := eq_true X4
      replace Z4 := eq_true Z4
      have ea_ := Option.some.inj (M0.symm.trans s4)
      injection ea_ with ea_ en_ ec_
      subst ea_
      subst ec_
      clear en_
      have ea_ := Option.some.inj (L0.symm.trans k4)
      injection ea_ with ea_ en_ ec_
      subst ea_
      subst ec_
      clear en_
      obtain ⟨_, _, _, _, _, _, _, _, _, _, _, _, _, _⟩ := bx7 C2
      go_wp2
      refine bodyPost_ret (results_ct rfl _ _ S3 32 #[.string ((rd_T32 l0_2 a0).f0), .int .i64 ((rd_T32 l0_2 a0).f1.f0), .int .i64 ((rd_T32 l0_2 a0).f1.f1), .slice L3 ((rd_T32 l0_2 a0).f1.f2).length u3, .slice m3 ((rd_T32 l0_2 a0).f1.f3).length I3, .int .i64 ((rd_T32 l0_2 a0).f1.f4.f0), .int .i64 ((rd_T32 l0_2 a0).f1.f4.f1)] (0, 0) _ rfl (gP C2 rfl) Tryz.underlying32 rfl (by kernel_rfl)) rfl ?_
      exact ⟨_, _, fe, gV P4, gV N4, bh HB⟩
     rw [if_neg c9] at H
     have m6 : (((rd_T32 l0_2 a0).f1.f1) == a2) = false := beq_eq_false_iff_ne.mpr c9
     have o6 : (((rd_T32 l0_2 a0).f1.f1) != a2) = true := bne_iff_ne.mpr c9
     have H' := am_ H
     clear H
     obtain ⟨_, _⟩ := n2 D1
     obtain ⟨_, _, _, _, _, _⟩ := bx3 Y0
     have P1 : 0 ≤ (a0 : Int) := dt
     have V1 : a0 < (l0_2.length : Int) := dt
     obtain ⟨i3, L3, u3, m3, I3, K4, V3, E4, a4, M0, L0, i4, m4, O0, P0, Q0, N0⟩ := at_T32 (Kd.V_reads' HO_244002.out).2.2 a0 P1 V1
     cases K4
     obtain ⟨l5, L2, N2, I0⟩ := Kd.V_get HO_244002.out z32 a0 P1 (by first | exact V1 | exact dt | (have e_ := (Kd.V_reads' HO_244002.out).1; omega))
     obtain ⟨Y3, Q3, W3, N3, rfl, z0, u0, o0, A0⟩ := k32_openF N2
     have m0 := I0 3 _ rfl
     rw [add_field _ _ 3 (by omega)] at m0
     replace m0 := Option.some.inj (m0.symm.trans M0)
     injection m0 with hva_ hvn_ hvc_
     rw [hva_] at u0
     rw [hvc_] at z0
     have l4 := am_ (show Kd.V k107 107 _ w.heap.size _ _ ((rd_T32 l0_2 a0).f1.f2) from Kd.V_mk z0 u0)
     clear hva_ hvn_ hvc_ u0 z0
     have n0 := I0 4 _ rfl
     rw [add_field _ _ 4 (by omega)] at n0
     replace n0 := Option.some.inj (n0.symm.trans L0)
     injection n0 with hva_ hvn_ hvc_
     rw [hva_] at A0
     rw [hvc_] at o0
     have I4 := am_ (show Kd.V Kd.string 9 _ w.heap.size _ _ ((rd_T32 l0_2 a0).f1.f3) from Kd.V_mk o0 A0)
     clear hva_ hvn_ hvc_ A0 o0 I0 L2
     have J4 := am_ P0
     have C4 := am_ O0
     clear P0 O0
     have D4 := am_ N0
     have X3 := am_ Q0
     clear N0 Q0
     replace P1 := eq_true P1
     replace V1 := eq_true V1
     have V2 : 0 ≤ (a0 : Int) := dt
     have Y2 : a0 < (l0_2.length : Int) := dt
     obtain ⟨L4, A5, s5, C5, E5, p5, j5, M4, k5, Q1, Y1, W4, S4, U1, X1, i2, Z1⟩ := at_T32 (Kd.V_reads' HO_244002.out).2.2 a0 V2 Y2
     obtain rfl : i3 = L4 := (by injection p5)
     obtain ⟨M5, J3, C3, O1⟩ := Kd.V_get HO_244002.out z32 a0 V2 (by first | exact Y2 | exact dt | (have e_ := (Kd.V_reads' HO_244002.out).1; omega))
     obtain ⟨Q4, U4, a5, V4, rfl, V0, W0, X0, U0⟩ := k32_openF C3
     have E0 := O1 3 _ rfl
     rw [add_field _ _ 3 (by omega)] at E0
     replace E0 := Option.some.inj (E0.symm.trans Q1)
     injection E0 with hva_ hvn_ hvc_
     rw [hva_] at W0
     rw [hvc_] at V0
     have Y4 := am_ (show Kd.V k107 107 _ w.heap.size _ _ ((rd_T32 l0_2 a0).f1.f2) from Kd.V_mk V0 W0)
     clear hva_ hvn_ hvc_ W0 V0
     have C0 := O1 4 _ rfl
     rw [add_field _ _ 4 (by omega)] at C0
     replace C0 := Option.some.inj (C0.symm.trans Y1)
     injection C0 with hva_ hvn_ hvc_
     rw [hva_] at U0
     rw [hvc_] at X0
     have O4 := am_ (show Kd.V Kd.string 9 _ w.heap.size _ _ ((rd_T32 l0_2 a0).f1.f3) from Kd.V_mk X0 U0)
     clear hva_ hvn_ hvc_ U0 X0 O1 J3
     have i5 := am_ X1
     have c5 := am_ U1
     clear X1 U1
     have R4 := am_ Z1
     have b5 := am_ i2
     clear Z1 i2
     replace V2 := eq_true V2
     replace Y2 := eq_true Y2
     have ea_ := Option.some.inj (M0.symm.trans Q1)
     injection ea_ with ea_ en_ ec_
     subst ea_
     subst ec_
     clear en_
     have ea_ := Option.some.inj (L0.symm.trans Y1)
     injection ea_ with ea_ en_ ec_
     subst ea_
     subst ec_
     clear en_
     go_wp2
     go_roundg k1
     case measure => have := X5.out; omega
     case rel => exact ⟨(wrap64 (a0 + 1)), (L1), (N1), (C1), (Z0), (i1), fr, H', kS X5, ⟨hV HO_244002⟩, ⟨gB Y0⟩, ⟨gB C2⟩, ⟨bh HB⟩⟩
    rw [if_neg c8] at H
    have q6 : (((rd_T32 l0_2 a0).f1.f0) == a1) = false := beq_eq_false_iff_ne.mpr c8
    have l6 : (((rd_T32 l0_2 a0).f1.f0) != a1) = true := bne_iff_ne.mpr c8
    have H' := am_ H
    clear H
    obtain ⟨_, _⟩ := n2 D1
    obtain ⟨_, _, _, _, _, _⟩ := bx3 Y0
    have P1 : 0 ≤ (a0 : Int) := dt
    have V1 : a0 < (l0_2.length : Int) := dt
    obtain ⟨i3, L3, u3, m3, I3, K4, V3, E4, a4, M0, L0, i4, m4, O0, P0, Q0, N0⟩ := at_T32 (Kd.V_reads' HO_244002.out).2.2 a0 P1 V1
    cases K4
    obtain ⟨l5, L2, N2, I0⟩ := Kd.V_get HO_244002.out z32 a0 P1 (by first | exact V1 | exact dt | (have e_ := (Kd.V_reads' HO_244002.out).1; omega))
    obtain ⟨Y3, Q3, W3, N3, rfl, z0, u0, o0, A0⟩ := k32_openF N2
    have m0 := I0 3 _ rfl
    rw [add_field _ _ 3 (by omega)] at m0
    replace m0 := Option.some.inj (m0.symm.trans M0)
    injection m0 with hva_ hvn_ hvc_
    rw [hva_] at u0
    rw [hvc_] at z0
    have l4 := am_ (show Kd.V k107 107 _ w.heap.size _ _ ((rd_T32 l0_2 a0).f1.f2) from Kd.V_mk z0 u0)
    clear hva_ hvn_ hvc_ u0 z0
    have n0 := I0 4 _ rfl
    rw [add_field _ _ 4 (by omega)] at n0
    replace n0 := Option.some.inj (n0.symm.trans L0)
    injection n0 with hva_ hvn_ hvc_
    rw [hva_] at A0
    rw [hvc_] at o0
    have I4 := am_ (show Kd.V Kd.string 9 _ w.heap.size _ _ ((rd_T32 l0_2 a0).f1.f3) from Kd.V_mk o0 A0)
    clear hva_ hvn_ hvc_ A0 o0 I0 L2
    have J4 := am_ P0
    have C4 := am_ O0
    clear P0 O0
    have D4 := am_ N0
    have X3 := am_ Q0
    clear N0 Q0
    replace P1 := eq_true P1
    replace V1 := eq_true V1
    go_wp2
    go_roundg k1
    case measure => have := X5.out; omega
    case rel => exact ⟨(wrap64 (a0 + 1)), (L1), (N1), (C1), (Z0), (i1), fr, H', kS X5, ⟨hV HO_244002⟩, ⟨gB Y0⟩, ⟨gB C2⟩, ⟨bh HB⟩⟩
   rw [if_neg c6] at H
   have i6 : decide (a0 < (l0_2.length : Int)) = false := decide_eq_false c6
   clear c6
   simp only [Option.some.injEq, Prod.mk.injEq] at H
   obtain ⟨rfl, rfl, rfl, rfl, rfl, rfl, rfl, rfl⟩ := H
   obtain ⟨_, _⟩ := n2 D1
   obtain ⟨_, _, _, _, _, _⟩ := bx3 Y0
   obtain ⟨_, _, _, _, _, _, _, _, _, _, _, _, _, _⟩ := bx7 C2
   go_wp2
   refine bodyPost_ret (results_ct rfl _ _ S3 32 #[.string (⟨#[]⟩ : ByteArray), .int .i64 0, .int .i64 0, .slice none 0 0, .slice none 0 0, .int .i64 0, .int .i64 0] (0, 0) _ rfl (gP C2 rfl) Tryz.underlying32 rfl (by kernel_rfl)) rfl ?_
   exact ⟨_, _, fe, Kd.V_nil _ _ _ _ _, Kd.V_nil _ _ _ _ _, bh HB⟩

def Fr.l0 : Nat → ByteArray → Int → Int → Int → List (S32) → Option (ByteArray × Int × Int × (List (S107)) × List ByteArray × Int × Int × Bool)
 | 0, _, _, _, _, _ => none
 | k + 1, x1, x6, m0, n0, a0 => if x6 < (a0.length : Int) then (if 0 ≤ x6 then (if ((rd_T32 a0 x6).f0).toList = x1.toList then (none) else (Fr.l0 k x1 (wrap64 (x6 + 1)) m0 n0 a0)) else (none)) else (some ((⟨#[]⟩ : ByteArray), 0, 0, ([] : List (S107)), ([] : List ByteArray), 0, 0, false))
def Fr.f (k : Nat) (a0_0 : Int) (a0_1 : Int) (l0_2 : List (S32)) (a1 : ByteArray) : Option (ByteArray × Int × Int × (List (S107)) × List ByteArray × Int × Int × Bool) := Fr.l0 k a1 0 a0_0 a0_1 l0_2
theorem Fr.mono_l : ∀ k, (∀ y0 y1 y2 y3 y4, LeO (Fr.l0 k y0 y1 y2 y3 y4) (Fr.l0 (k + 1) y0 y1 y2 y3 y4))
 | 0 => fun _ _ _ _ _ r h => by simp [Fr.l0] at h
 | k + 1 => by
  have a0 := Fr.mono_l k
  ·
   intro y0 y1 y2 y3 y4
   unfold Fr.l0
   repeat' first | (with_reducible first | exact a0 _ _ _ _ _ | exact LeO.refl _ | exact LeO.none _ | refine LeO.ite ?_ ?_ | refine LeO.bind ?_ (fun _ => ?_)) | exact a0 _ _ _ _ _ | refine LeO.ite ?_ ?_ | refine LeO.bind ?_ (fun _ => ?_)
theorem Fr.mono : ∀ a0 a1 a2 a3 k, LeO (Fr.f k a0 a1 a2 a3) (Fr.f (k + 1) a0 a1 a2 a3) := by
 intro a0 a1 a2 a3 k
 have m0 := Fr.mono_l k
 unfold Fr.f
 repeat' first | (with_reducible first | exact m0 _ _ _ _ _ | exact LeO.refl _ | exact LeO.none _ | refine LeO.ite ?_ ?_ | refine LeO.bind ?_ (fun _ => ?_)) | exact m0 _ _ _ _ _ | refine LeO.ite ?_ ?_ | refine LeO.bind ?_ (fun _ => ?_)
set_option maxHeartbeats 8000000 in
set_option maxRecDepth 100000 in
theorem Fr.calls (k : Nat) (a0_0 : Int) (a0_1 : Int) (U0 : Nat → Prop) (A0_2 : Option Addr) (c0_2 : Nat) (l0_2 : List (S32)) (a1 : ByteArray) (r1 : ByteArray) (r2 : Int) (r3 : Int) (r4 : List (S107)) (r5 : List ByteArray) (r6 : Int) (r7 : Int) (r8 : Bool) (w : World) (V1 : Kd.V k32 32 w w.heap.size (fun k_ => U0 k_) (.slice A0_2 l0_2.length c0_2) l0_2) (h : Fr.f k a0_0 a0_1 l0_2 a1 = some (r1, r2, r3, r4, r5, r6, r7, r8)) :
  Calls Tryz.prog 42 #[.agg #[.int .i64 a0_0, .int .i64 a0_1, .slice A0_2 l0_2.length c0_2], .string a1] w fun e w' => ∃ U3 S3 : Value, e = .returned (.tuple #[.agg #[.string r1, .int .i64 r2, .int .i64 r3, U3, S3, .int .i64 r6, .int .i64 r7], .bool r8]) ∧ Kd.V k107 107 w' w.heap.size (fun k_ => (U0 k_ ∨ w.heap.size ≤ k_)) U3 r4 ∧ Kd.V Kd.string 9 w' w.heap.size (fun k_ => (U0 k_ ∨ w.heap.size ≤ k_)) S3 r5 ∧ Below w.heap.size w w' := by
 have a4 := Tryz.underlying24
 have W3 := Tryz.underlying32
 have P0 := am_ (show Kd.V k32 32 w w.heap.size (fun k_ => (U0 k_ ∨ w.heap.size ≤ k_)) (.slice A0_2 l0_2.length c0_2) l0_2 from Kd.V_mono V1 (fun k_ hk => .inl hk))
 have HB := am_ (Below.refl w.heap.size w)
 have H : (Fr.l0 k a1 0 a0_0 a0_1 l0_2) = some (r1, r2, r3, r4, r5, r6, r7, r8) := h
 clear h
 have H' := am_ H
 clear H
 go_enter Tryz.func42, Tryz.ntmps42
 go_wp2_with (first | ((with_reducible refine gd_ 2 ?_); refine be_ 2 #[.int .i64 a0_0, .int .i64 a0_1, .slice A0_2 l0_2.length c0_2] 24 ?_; intro O1 hg w3 hbox hb; replace P0 := tVe P0 hg hb; have A0 := am_ hbox; have L3 := tG HB hg; have Q3 := tG HB hg; replace HB := tHb HB hb; clear hb hbox hg) | ((with_reducible refine gd_ 4 ?_); refine be_ 4 #[.string (⟨#[]⟩ : ByteArray), .int .i64 0, .int .i64 0, .slice none 0 0, .slice none 0 0, .int .i64 0, .int .i64 0] 32 ?_; intro i1 hg w4 hbox hb; replace P0 := tVe P0 hg hb; have Q0 := am_ hbox; have N3 := tG HB hg; have D3 := tG HB hg; replace HB := tHb HB hb; obtain ⟨I0, U1⟩ := tN A0 hg; replace A0 := tBb A0 hb; clear hb hbox hg))
 go_loopg [6] k (fun kq v6 w' => ∃ (a0 : Int) (m0 : ByteArray) (u0 : Int) (o0 : Int) (z0 : Int) (n0 : Int), v6 = .int .i64 a0 ∧ Asc (Fr.l0 kq a1 a0 a0_0 a0_1 l0_2 = some (r1, r2, r3, r4, r5, r6, r7, r8)) ∧ Asc (kq ≤ k) ∧ Asc (Kd.V k32 32 w' w.heap.size (fun k_ => (U0 k_ ∨ w.heap.size ≤ k_) ∧ k_ ≠ O1 ∧ k_ ≠ i1) (.slice A0_2 l0_2.length c0_2) l0_2) ∧ Asc (w'.heap[O1]? = some (.cells #[.int .i64 a0_0, .int .i64 a0_1, (.slice A0_2 l0_2.length c0_2)] 24 (0, 0))) ∧ Asc (w'.heap[i1]? = some (.cells #[.string m0, .int .i64 u0, .int .i64 o0, (.slice none 0 0), (.slice none 0 0), .int .i64 z0, .int .i64 n0] 32 (0, 0))) ∧ Asc (Below w.heap.size w w'))
 case atStart => exact ⟨(0), ((⟨#[]⟩ : ByteArray)), (0), (0), (0), (0), fr, H', ⟨Nat.le_refl _⟩, ⟨gV P0⟩, ⟨gB A0⟩, ⟨gB Q0⟩, ⟨bh HB⟩⟩
 case round =>
  clear H'
  obtain ⟨a0, m0, u0, o0, z0, n0, rfl, HA, J3, HO_249002, A0, Q0, HB⟩ := hrel
  cases gk with
  | zero => exact absurd HA.out (by simp [Fr.l0])
  | succ k1 =>
   have H := HA.out
   clear HA
   simp only [Fr.l0] at H
   by_cases c5 : a0 < (l0_2.length : Int)
   ·
    rw [if_pos c5] at H
    have i3 : decide (a0 < (l0_2.length : Int)) = true := decide_eq_true c5
    clear c5
    revert H
    refine gi (fun Z3 H => ?_)
    by_cases c7 : ((rd_T32 l0_2 a0).f0).toList = a1.toList
    ·
     rw [if_pos c7] at H
     exact absurd H (by simp)
    rw [if_neg c7] at H
    have X3 : (((rd_T32 l0_2 a0).f0).toList == a1.toList) = false := beq_eq_false_iff_ne.mpr c7
    have Y3 : (((rd_T32 l0_2 a0).f0).toList != a1.toList) = true := bne_iff_ne.mpr c7
    have H' := am_ H
    clear H
    obtain ⟨_, _⟩ := n2 I0
    obtain ⟨_, _, _, _, _, _⟩ := bx3 A0
    have N1 : 0 ≤ (a0 : Int) := dt
    have D1 : a0 < (l0_2.length : Int) := dt
    obtain ⟨I3, m3, l3, k3, C3, u3, V2, N2, b3, C1, L1, a3, X1, X0, Z0, Y0, W0⟩ := at_T32 (Kd.V_reads' HO_249002.out).2.2 a0 N1 D1
    cases u3
    obtain ⟨V3, P1, Q1, V0⟩ := Kd.V_get HO_249002.out z32 a0 N1 (by first | exact D1 | exact dt | (have e_ := (Kd.V_reads' HO_249002.out).1; omega))
    obtain ⟨Q2, Y2, J2, C2, rfl, M0, O0, N0, L0⟩ := k32_openF Q1
    have C0 := V0 3 _ rfl
    rw [add_field _ _ 3 (by omega)] at C0
    replace C0 := Option.some.inj (C0.symm.trans C1)
    injection C0 with hva_ hvn_ hvc_
    rw [hva_] at O0
    rw [hvc_] at M0
    have Z2 := am_ (show Kd.V k107 107 _ w.heap.size _ _ ((rd_T32 l0_2 a0).f1.f2) from Kd.V_mk M0 O0)
    clear hva_ hvn_ hvc_ O0 M0
    have E0 := V0 4 _ rfl
    rw [add_field _ _ 4 (by omega)] at E0
    replace E0 := Option.some.inj (E0.symm.trans L1)
    injection E0 with hva_ hvn_ hvc_
    rw [hva_] at L0
    rw [hvc_] at N0
    have L2 := am_ (show Kd.V Kd.string 9 _ w.heap.size _ _ ((rd_T32 l0_2 a0).f1.f3) from Kd.V_mk N0 L0)
    clear hva_ hvn_ hvc_ L0 N0 V0 P1
    have i2 := am_ Z0
    have Y1 := am_ X0
    clear Z0 X0
    have D2 := am_ W0
    have Z1 := am_ Y0
    clear W0 Y0
    replace N1 := eq_true N1
    replace D1 := eq_true D1
    go_wp2
    go_roundg k1
    case measure => have := J3.out; omega
    case rel => exact ⟨(wrap64 (a0 + 1)), (m0), (u0), (o0), (z0), (n0), fr, H', kS J3, ⟨hV HO_249002⟩, ⟨gB A0⟩, ⟨gB Q0⟩, ⟨bh HB⟩⟩
   rw [if_neg c5] at H
   have i3 : decide (a0 < (l0_2.length : Int)) = false := decide_eq_false c5
   clear c5
   simp only [Option.some.injEq, Prod.mk.injEq] at H
   obtain ⟨rfl, rfl, rfl, rfl, rfl, rfl, rfl, rfl⟩ := H
   obtain ⟨_, _⟩ := n2 I0
   obtain ⟨_, _, _, _, _, _⟩ := bx3 A0
   obtain ⟨_, _, _, _, _, _, _, _, _, _, _, _, _, _⟩ := bx7 Q0
   go_wp2
   refine bodyPost_ret (results_ct rfl _ _ i1 32 #[.string (⟨#[]⟩ : ByteArray), .int .i64 0, .int .i64 0, .slice none 0 0, .slice none 0 0, .int .i64 0, .int .i64 0] (0, 0) _ rfl (gP Q0 rfl) Tryz.underlying32 rfl (by kernel_rfl)) rfl ?_
   exact ⟨_, _, fe, Kd.V_nil _ _ _ _ _, Kd.V_nil _ _ _ _ _, bh HB⟩

def Ga.f (a0 : Int) : Option ByteArray := if 0 ≤ a0 ∧ a0 < 18446744073709551616 then some (Sa.numB a0.toNat) else none
theorem Ga.calls (a0 : Int) (r : ByteArray) (w : World) (h : Ga.f a0 = some r) :
  Calls Tryz.prog 86 #[.int .u64 a0] w fun e w' => e = .returned (.string r) ∧ Below w.heap.size w w' := by
 unfold Ga.f at h
 by_cases hs : 0 ≤ a0 ∧ a0 < 18446744073709551616
 ·
  rw [if_pos hs] at h
  obtain rfl := Option.some.inj h
  have k := Sa.rnum_c a0.toNat (by omega) w
  rw [show ((a0.toNat : Nat) : Int) = a0 from by omega] at k
  exact k
 rw [if_neg hs] at h; cases h

def Gi.f (a0 : Int) : Option (Bool) := if a0 > 0 then (some ((Int.tmod a0 3) == 0)) else (some false)
set_option maxHeartbeats 8000000 in
set_option maxRecDepth 100000 in
theorem Gi.calls (a0 : Int) (r : Bool) (w : World) (h : Gi.f a0 = some r) :
  Calls Tryz.prog 43 #[.int .i64 a0] w fun e w' => e = .returned (.bool r) ∧ Drawn0 w w' := by
 have H : (if a0 > 0 then (some ((Int.tmod a0 3) == 0)) else (some false)) = some r := h
 clear h
 by_cases c2 : a0 > 0
 ·
  rw [if_pos c2] at H
  have m0 : decide (0 < a0) = true := decide_eq_true c2
  clear c2
  obtain rfl := Option.some.inj H
  go_enter Tryz.func43, Tryz.ntmps43
  go_wp2
  go_ret
  exact ⟨fr, by repeat (first | exact Drawn0.refl _ | apply Drawn0.step)⟩
 rw [if_neg c2] at H
 have m0 : decide (0 < a0) = false := decide_eq_false c2
 clear c2
 obtain rfl := Option.some.inj H
 go_enter Tryz.func43, Tryz.ntmps43
 go_wp2
 go_ret
 exact ⟨fr, by repeat (first | exact Drawn0.refl _ | apply Drawn0.step)⟩

def Fm.f (a0 : Int) : Option (Bool) := if a0 = 4 then (some true) else (if a0 > 4 then (if a0 ≤ 64 then (some ((Int.tmod (wrap64 (a0 - 1)) 3) == 0)) else (some false)) else (some false))
set_option maxHeartbeats 8000000 in
set_option maxRecDepth 100000 in
theorem Fm.calls (a0 : Int) (r : Bool) (w : World) (h : Fm.f a0 = some r) :
  Calls Tryz.prog 54 #[.int .i64 a0] w fun e w' => e = .returned (.bool r) ∧ Drawn0 w w' := by
 have H : (if a0 = 4 then (some true) else (if a0 > 4 then (if a0 ≤ 64 then (some ((Int.tmod (wrap64 (a0 - 1)) 3) == 0)) else (some false)) else (some false))) = some r := h
 clear h
 by_cases c2 : a0 = 4
 ·
  rw [if_pos c2] at H
  have o0 : (a0 == 4) = true := beq_iff_eq.mpr c2
  have n0 : (a0 != 4) = false := bne_eq_false_iff_eq.mpr c2
  clear c2
  obtain rfl := Option.some.inj H
  go_enter Tryz.func54, Tryz.ntmps54
  go_wp2
  go_ret
  exact ⟨fr, by repeat (first | exact Drawn0.refl _ | apply Drawn0.step)⟩
 rw [if_neg c2] at H
 have o0 : (a0 == 4) = false := beq_eq_false_iff_ne.mpr c2
 have n0 : (a0 != 4) = true := bne_iff_ne.mpr c2
 by_cases c3 : a0 > 4
 ·
  rw [if_pos c3] at H
  have u0 : decide (4 < a0) = true := decide_eq_true c3
  clear c3
  by_cases c4 : a0 ≤ 64
  ·
   rw [if_pos c4] at H
   have m0 : decide (a0 ≤ 64) = true := decide_eq_true c4
   clear c4
   obtain rfl := Option.some.inj H
   go_enter Tryz.func54, Tryz.ntmps54
   go_wp2
   go_ret
   exact ⟨fr, by repeat (first | exact Drawn0.refl _ | apply Drawn0.step)⟩
  rw [if_neg c4] at H
  have m0 : decide (a0 ≤ 64) = false := decide_eq_false c4
  clear c4
  obtain rfl := Option.some.inj H
  go_enter Tryz.func54, Tryz.ntmps54
  go_wp2
  go_ret
  exact ⟨fr, by repeat (first | exact Drawn0.refl _ | apply Drawn0.step)⟩
 rw [if_neg c3] at H
 have u0 : decide (4 < a0) = false := decide_eq_false c3
 clear c3
 obtain rfl := Option.some.inj H
 go_enter Tryz.func54, Tryz.ntmps54
 go_wp2
 go_ret
 exact ⟨fr, by repeat (first | exact Drawn0.refl _ | apply Drawn0.step)⟩

def F1.f (a0_0 : Int) (a0_1 : Int) : Option (Bool) := if a0_0 ≥ 0 then (if a0_0 < 10007 then (if a0_1 ≥ 0 then (some (decide (a0_1 < 10007))) else (some false)) else (some false)) else (some false)
set_option maxHeartbeats 8000000 in
set_option maxRecDepth 100000 in
theorem F1.calls (a0_0 : Int) (a0_1 : Int) (r : Bool) (w : World) (h : F1.f a0_0 a0_1 = some r) :
  Calls Tryz.prog 77 #[.agg #[.int .i64 a0_0, .int .i64 a0_1]] w fun e w' => e = .returned (.bool r) ∧ Below w.heap.size w w' := by
 have C0 := Tryz.underlying28
 have HB := am_ (Below.refl w.heap.size w)
 have H : (if a0_0 ≥ 0 then (if a0_0 < 10007 then (if a0_1 ≥ 0 then (some (decide (a0_1 < 10007))) else (some false)) else (some false)) else (some false)) = some r := h
 clear h
 by_cases c2 : a0_0 ≥ 0
 ·
  rw [if_pos c2] at H
  have A0 : decide (0 ≤ a0_0) = true := decide_eq_true c2
  clear c2
  by_cases c3 : a0_0 < 10007
  ·
   rw [if_pos c3] at H
   have u0 : decide (a0_0 < 10007) = true := decide_eq_true c3
   clear c3
   by_cases c4 : a0_1 ≥ 0
   ·
    rw [if_pos c4] at H
    have z0 : decide (0 ≤ a0_1) = true := decide_eq_true c4
    clear c4
    obtain rfl := Option.some.inj H
    go_enter Tryz.func77, Tryz.ntmps77
    go_wp2_with (first | ((with_reducible refine gd_ 1 ?_); refine be_ 1 #[.int .i64 a0_0, .int .i64 a0_1] 28 ?_; intro m0 hg w5 hbox hb; have a0 := am_ hbox; have o0 := tG HB hg; have n0 := tG HB hg; replace HB := tHb HB hb; clear hb hbox hg; obtain ⟨_, _, _, _⟩ := bx2 a0))
    go_ret
    exact ⟨fe, bh HB⟩
   rw [if_neg c4] at H
   have z0 : decide (0 ≤ a0_1) = false := decide_eq_false c4
   clear c4
   obtain rfl := Option.some.inj H
   go_enter Tryz.func77, Tryz.ntmps77
   go_wp2_with (first | ((with_reducible refine gd_ 1 ?_); refine be_ 1 #[.int .i64 a0_0, .int .i64 a0_1] 28 ?_; intro m0 hg w7 hbox hb; have a0 := am_ hbox; have o0 := tG HB hg; have n0 := tG HB hg; replace HB := tHb HB hb; clear hb hbox hg; obtain ⟨_, _, _, _⟩ := bx2 a0))
   go_ret
   exact ⟨fe, bh HB⟩
  rw [if_neg c3] at H
  have u0 : decide (a0_0 < 10007) = false := decide_eq_false c3
  clear c3
  obtain rfl := Option.some.inj H
  go_enter Tryz.func77, Tryz.ntmps77
  go_wp2_with (first | ((with_reducible refine gd_ 1 ?_); refine be_ 1 #[.int .i64 a0_0, .int .i64 a0_1] 28 ?_; intro m0 hg w9 hbox hb; have a0 := am_ hbox; have o0 := tG HB hg; have n0 := tG HB hg; replace HB := tHb HB hb; clear hb hbox hg; obtain ⟨_, _, _, _⟩ := bx2 a0))
  go_ret
  exact ⟨fe, bh HB⟩
 rw [if_neg c2] at H
 have A0 : decide (0 ≤ a0_0) = false := decide_eq_false c2
 clear c2
 obtain rfl := Option.some.inj H
 go_enter Tryz.func77, Tryz.ntmps77
 go_wp2_with (first | ((with_reducible refine gd_ 1 ?_); refine be_ 1 #[.int .i64 a0_0, .int .i64 a0_1] 28 ?_; intro m0 hg E0 hbox hb; have a0 := am_ hbox; have o0 := tG HB hg; have n0 := tG HB hg; replace HB := tHb HB hb; clear hb hbox hg; obtain ⟨_, _, _, _⟩ := bx2 a0))
 go_ret
 exact ⟨fe, bh HB⟩

end Go.Proofs.YtopijobdblfhoaaGreat.PTuskAsks
