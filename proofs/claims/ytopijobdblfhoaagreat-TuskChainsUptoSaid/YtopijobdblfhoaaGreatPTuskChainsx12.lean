import Derived.Test.YtopijobdblfhoaaGreatPTuskChainsx0
import Derived.Test.YtopijobdblfhoaaGreatVTuskChainsPj
set_option linter.unusedVariables false
set_option linter.unusedSimpArgs false
/- Printed by a program of this session. -/
namespace Go.Proofs.YtopijobdblfhoaaGreat.PTuskChains
set_option maxHeartbeats 8000000
set_option maxRecDepth 100000
open Go.RowKit Go.Proofs.YtopijobdblfhoaaGreatW.PrintWords Go.Proofs.YtopijobdblfhoaaGreatW.PrintLast Go.Proofs.YtopijobdblfhoaaGreatW.PrintMore
def Fd.l0 : Nat → Int → Int → Int → Int → Int → List (S32) → Option (ByteArray × Int × Int × (List (Qaz)) × List ByteArray × Int × Int × Bool)
 | 0, _, _, _, _, _, _ => none
 | k + 1, x1, x2, x8, o0, u0, n0 => if x8 < (n0.length : Int) then (if 0 ≤ x8 then (if ((Qab n0 x8).f1.f0) = x1 then (if ((Qab n0 x8).f1.f1) = x2 then (some ((Qab n0 x8).f0, (Qab n0 x8).f1.f0, (Qab n0 x8).f1.f1, (Qab n0 x8).f1.f2, (Qab n0 x8).f1.f3, (Qab n0 x8).f1.f4.f0, (Qab n0 x8).f1.f4.f1, true)) else (Fd.l0 k x1 x2 (wrap64 (x8 + 1)) o0 u0 n0)) else (Fd.l0 k x1 x2 (wrap64 (x8 + 1)) o0 u0 n0)) else (none)) else (some ((⟨#[]⟩ : ByteArray), 0, 0, ([] : List (Qaz)), ([] : List ByteArray), 0, 0, false))
def Fd.f (k : Nat) (a0_0 a0_1 : Int) (l0_2 : List (S32)) (a1 a2 : Int) : Option (ByteArray × Int × Int × (List (Qaz)) × List ByteArray × Int × Int × Bool) := Fd.l0 k a1 a2 0 a0_0 a0_1 l0_2
theorem Fd.mono_l : ∀ k, (∀ y0 y1 y2 y3 y4 y5, LeO (Fd.l0 k y0 y1 y2 y3 y4 y5) (Fd.l0 (k + 1) y0 y1 y2 y3 y4 y5))
 | 0 => fun _ _ _ _ _ _ r h => by simp [Fd.l0] at h
 | k + 1 => by
  have n0 := Fd.mono_l k
  ·
   intro y0 y1 y2 y3 y4 y5; unfold Fd.l0; repeat' first | (with_reducible first | exact n0 _ _ _ _ _ _ | exact LeO.refl _ | exact LeO.none _ | refine LeO.ite ?_ ?_ | refine LeO.bind ?_ (fun _ => ?_)) | exact n0 _ _ _ _ _ _ | refine LeO.ite ?_ ?_ | refine LeO.bind ?_ (fun _ => ?_)
theorem Fd.mono : ∀ a0 a1 a2 a3 a4 k, LeO (Fd.f k a0 a1 a2 a3 a4) (Fd.f (k + 1) a0 a1 a2 a3 a4) := by
 intro a0 a1 a2 a3 a4 k; have n0 := Fd.mono_l k; unfold Fd.f; repeat' first | (with_reducible first | exact n0 _ _ _ _ _ _ | exact LeO.refl _ | exact LeO.none _ | refine LeO.ite ?_ ?_ | refine LeO.bind ?_ (fun _ => ?_)) | exact n0 _ _ _ _ _ _ | refine LeO.ite ?_ ?_ | refine LeO.bind ?_ (fun _ => ?_)
theorem Fd.calls (k : Nat) (a0_0 a0_1 : Int) (L3 : Nat → Prop) (A0_2 : Option Addr) (c0_2 : Nat) (l0_2 : List (S32)) (a1 a2 : Int) (r1 : ByteArray) (r2 r3 : Int) (r4 : List (Qaz)) (r5 : List ByteArray) (r6 r7 : Int) (r8 : Bool) (w : World) (l6 : Kd.V k32 32 w w.heap.size (fun k_ => L3 k_) (.slice A0_2 l0_2.length c0_2) l0_2) (h : Fd.f k a0_0 a0_1 l0_2 a1 a2 = some (r1, r2, r3, r4, r5, r6, r7, r8)) :
  Calls Tryz.prog 30 #[.agg #[.int .i64 a0_0, .int .i64 a0_1, .slice A0_2 l0_2.length c0_2], .int .i64 a1, .int .i64 a2] w fun e w' => ∃ f7 g7 : Value, e = .returned (.tuple #[.agg #[.string r1, .int .i64 r2, .int .i64 r3, f7, g7, .int .i64 r6, .int .i64 r7], .bool r8]) ∧ Kd.V Qbm 107 w' w.heap.size (fun k_ => (L3 k_ ∨ w.heap.size ≤ k_)) f7 r4 ∧ Kd.V Kd.string 9 w' w.heap.size (fun k_ => (L3 k_ ∨ w.heap.size ≤ k_)) g7 r5 ∧ Below w.heap.size w w' := by
 have j7 := Tryz.underlying24; have i7 := Tryz.underlying32; have N3 := am_ (show Kd.V k32 32 w w.heap.size (fun k_ => (L3 k_ ∨ w.heap.size ≤ k_)) (.slice A0_2 l0_2.length c0_2) l0_2 from Kd.V_mono l6 (fun k_ hk => .inl hk)); have HB := am_ (Below.refl w.heap.size w); have H := h; unfold Fd.f at H; clear h; have H' := am_ H; clear H; go_enter Tryz.func30, Tryz.ntmps30
 go_wp2_with (first | (refine bf_ 3 #[.int .i64 a0_0, .int .i64 a0_1, .slice A0_2 l0_2.length c0_2] 24 HB ?_; intro S5 hg w4 hb L1 Y6 HB; replace N3 := tVe N3 hg hb; clear hb hg) | (refine bf_ 6 #[.string (⟨#[]⟩ : ByteArray), .int .i64 0, .int .i64 0, .slice none 0 0, .slice none 0 0, .int .i64 0, .int .i64 0] 32 HB ?_; intro u4 hg w5 hb V2 Z6 HB; replace N3 := tVe N3 hg hb; obtain ⟨U1, j6⟩ := tN L1 hg; replace L1 := tBb L1 hb; clear hb hg))
 go_loopg [8] k (fun kq v8 w' => ∃ (n0 : Int) (V1 : ByteArray) (P1 : Int) (N1 : Int) (Q1 : Int) (O1 : Int), v8 = .int .i64 n0 ∧ Asc (Fd.l0 kq a1 a2 n0 a0_0 a0_1 l0_2 = some (r1, r2, r3, r4, r5, r6, r7, r8)) ∧ Asc (kq ≤ k) ∧ Asc (Kd.V k32 32 w' w.heap.size (fun k_ => (L3 k_ ∨ w.heap.size ≤ k_) ∧ k_ ≠ S5 ∧ k_ ≠ u4) (.slice A0_2 l0_2.length c0_2) l0_2) ∧ Asc (w'.heap[S5]? = some (.cells #[.int .i64 a0_0, .int .i64 a0_1, (.slice A0_2 l0_2.length c0_2)] 24 (0, 0))) ∧ Asc (w'.heap[u4]? = some (.cells #[.string V1, .int .i64 P1, .int .i64 N1, (.slice none 0 0), (.slice none 0 0), .int .i64 Q1, .int .i64 O1] 32 (0, 0))) ∧ Asc (Below w.heap.size w w'))
 case atStart => exact ⟨(0), ((⟨#[]⟩ : ByteArray)), (0), (0), (0), (0), fr, H', ⟨Nat.le_refl _⟩, ⟨gV N3⟩, ⟨gB L1⟩, ⟨gB V2⟩, ⟨bh HB⟩⟩
 case round =>
  clear H'; obtain ⟨n0, V1, P1, N1, Q1, O1, rfl, HA, D6, HO_244002, L1, V2, HB⟩ := hrel
  cases gk with
  | zero => exact absurd HA.out (by simp [Fd.l0])
  | succ k1 =>
   have H := HA.out; clear HA; simp only [Fd.l0] at H
   by_cases c6 : n0 < (l0_2.length : Int)
   ·
    rw [if_pos c6] at H; have W6 := dT c6; clear c6; revert H; refine gi (fun k7 H => ?_)
    by_cases c8 : ((Qab l0_2 n0).f1.f0) = a1
    ·
     rw [if_pos c8] at H; obtain ⟨X6, Q6⟩ := et c8; clear c8
     by_cases c9 : ((Qab l0_2 n0).f1.f1) = a2
     ·
      rw [if_pos c9] at H; obtain ⟨V6, S6⟩ := et c9; clear c9; replace H := oi8 H; obtain ⟨rfl, rfl, rfl, rfl, rfl, rfl, rfl, rfl⟩ := H; have _ := n2 U1; have _ := bx3 L1; have Y1 : 0 ≤ (n0 : Int) := dt; have Q2 : n0 < (l0_2.length : Int) := dt; obtain ⟨Q3, Y3, V3, Z3, S3, c5, R4, J4, s4, V0, X0, m4, U4, U0, P0, O0, Q0⟩ := Qao (Kd.V_reads' HO_244002.out).2.2 n0 Y1 Q2; cases c5; obtain ⟨R5, m3, k3, N0⟩ := Kd.V_get HO_244002.out z32 n0 Y1 (by first | exact Q2 | exact dt | (have e_ := (Kd.V_reads' HO_244002.out).1; omega)); obtain ⟨V4, M4, K4, Q4, rfl, E0, A0, C0, I0⟩ := Qap k3; have u0 := N0 3 _ rfl; rw [Qaf _ _ 3 (by omega)] at u0; replace u0 := Option.some.inj (u0.symm.trans V0)
      injection u0 with hva_ hvn_ hvc_
      rw [hva_] at A0; rw [hvc_] at E0; have S4 := am_ (show Kd.V Qbm 107 _ w.heap.size _ _ ((Qab l0_2 n0).f1.f2) from Kd.V_mk E0 A0); clear hva_ hvn_ hvc_ A0 E0; have o0 := N0 4 _ rfl; rw [Qaf _ _ 4 (by omega)] at o0; replace o0 := Option.some.inj (o0.symm.trans X0)
      injection o0 with hva_ hvn_ hvc_
      rw [hva_] at I0; rw [hvc_] at C0; have I4 := am_ (show Kd.V Kd.string 9 _ w.heap.size _ _ ((Qab l0_2 n0).f1.f3) from Kd.V_mk C0 I0); clear hva_ hvn_ hvc_ I0 C0 N0 m3; have O4 := am_ P0; have X4 := am_ U0; clear P0 U0; have Y4 := am_ Q0; have N4 := am_ O0; clear Q0 O0; replace Y1 := eq_true Y1; replace Q2 := eq_true Q2; have s3 : 0 ≤ (n0 : Int) := dt; have C3 : n0 < (l0_2.length : Int) := dt; obtain ⟨Z4, X5, U5, Y5, V5, i6, K5, k5, O5, N2, L2, P5, J5, D2, J2, C2, Z1⟩ := Qao (Kd.V_reads' HO_244002.out).2.2 n0 s3 C3; obtain rfl : Q3 = Z4 := (by injection i6); obtain ⟨m6, X3, U3, X1⟩ := Kd.V_get HO_244002.out z32 n0 s3 (by first | exact C3 | exact dt | (have e_ := (Kd.V_reads' HO_244002.out).1; omega)); obtain ⟨s5, M5, C5, A5, rfl, Z0, Y0, C1, D1⟩ := Qap U3; have M0 := X1 3 _ rfl; rw [Qaf _ _ 3 (by omega)] at M0; replace M0 := Option.some.inj (M0.symm.trans N2)
      injection M0 with hva_ hvn_ hvc_
      rw [hva_] at Y0; rw [hvc_] at Z0; have L5 := am_ (show Kd.V Qbm 107 _ w.heap.size _ _ ((Qab l0_2 n0).f1.f2) from Kd.V_mk Z0 Y0); clear hva_ hvn_ hvc_ Y0 Z0; have L0 := X1 4 _ rfl; rw [Qaf _ _ 4 (by omega)] at L0; replace L0 := Option.some.inj (L0.symm.trans L2)
      injection L0 with hva_ hvn_ hvc_
      rw [hva_] at D1; rw [hvc_] at C1; have p5 := am_ (show Kd.V Kd.string 9 _ w.heap.size _ _ ((Qab l0_2 n0).f1.f3) from Kd.V_mk C1 D1); clear hva_ hvn_ hvc_ D1 C1 X1 X3; have l5 := am_ J2; have m5 := am_ D2; clear J2 D2; have i5 := am_ Z1; have Q5 := am_ C2; clear Z1 C2; replace s3 := eq_true s3; replace C3 := eq_true C3; have ea_ := Option.some.inj (V0.symm.trans N2)
      injection ea_ with ea_ en_ ec_
      subst ea_; subst ec_; clear en_; have ea_ := Option.some.inj (X0.symm.trans L2)
      injection ea_ with ea_ en_ ec_
      subst ea_; subst ec_; clear en_; have E5 : 0 ≤ (n0 : Int) := dt; have I5 : n0 < (l0_2.length : Int) := dt; obtain ⟨k6, U6, P6, O6, N6, R6, J6, I6, z6, W4, E4, q6, C6, D4, L4, P4, C4⟩ := Qao (Kd.V_reads' HO_244002.out).2.2 n0 E5 I5; obtain rfl : Q3 = k6 := (by injection R6); obtain ⟨d7, Z5, W5, k4⟩ := Kd.V_get HO_244002.out z32 n0 E5 (by first | exact I5 | exact dt | (have e_ := (Kd.V_reads' HO_244002.out).1; omega)); obtain ⟨o6, L6, K6, M6, rfl, D3, I3, J3, u3⟩ := Qap W5; have Z2 := k4 3 _ rfl; rw [Qaf _ _ 3 (by omega)] at Z2; replace Z2 := Option.some.inj (Z2.symm.trans W4)
      injection Z2 with hva_ hvn_ hvc_
      rw [hva_] at I3; rw [hvc_] at D3; have N5 := am_ (show Kd.V Qbm 107 _ w.heap.size _ _ ((Qab l0_2 n0).f1.f2) from Kd.V_mk D3 I3); clear hva_ hvn_ hvc_ I3 D3; have Y2 := k4 4 _ rfl; rw [Qaf _ _ 4 (by omega)] at Y2; replace Y2 := Option.some.inj (Y2.symm.trans E4)
      injection Y2 with hva_ hvn_ hvc_
      rw [hva_] at u3; rw [hvc_] at J3; have D5 := am_ (show Kd.V Kd.string 9 _ w.heap.size _ _ ((Qab l0_2 n0).f1.f3) from Kd.V_mk J3 u3); clear hva_ hvn_ hvc_ u3 J3 k4 Z5; have p6 := am_ L4; have E6 := am_ D4; clear L4 D4; have s6 := am_ C4; have A6 := am_ P4; clear C4 P4; replace E5 := eq_true E5; replace I5 := eq_true I5; have ea_ := Option.some.inj (V0.symm.trans W4)
      injection ea_ with ea_ en_ ec_
      subst ea_; subst ec_; clear en_; have ea_ := Option.some.inj (X0.symm.trans E4)
      injection ea_ with ea_ en_ ec_
      subst ea_; subst ec_; clear en_; have _ := bx7 V2; go_wp2; refine bodyPost_ret (Qak rfl _ _ u4 32 #[.string ((Qab l0_2 n0).f0), .int .i64 ((Qab l0_2 n0).f1.f0), .int .i64 ((Qab l0_2 n0).f1.f1), .slice Y3 ((Qab l0_2 n0).f1.f2).length V3, .slice Z3 ((Qab l0_2 n0).f1.f3).length S3, .int .i64 ((Qab l0_2 n0).f1.f4.f0), .int .i64 ((Qab l0_2 n0).f1.f4.f1)] (0, 0) _ rfl (gP V2 rfl) Tryz.underlying32 rfl (by kernel_rfl)) rfl ?_; exact ⟨_, _, fe, gV N5, gV D5, bh HB⟩
     rw [if_neg c9] at H; obtain ⟨V6, S6⟩ := ef c9; have H' := am_ H; clear H; have _ := n2 U1; have _ := bx3 L1; have Y1 : 0 ≤ (n0 : Int) := dt; have Q2 : n0 < (l0_2.length : Int) := dt; obtain ⟨Q3, Y3, V3, Z3, S3, c5, R4, J4, s4, V0, X0, m4, U4, U0, P0, O0, Q0⟩ := Qao (Kd.V_reads' HO_244002.out).2.2 n0 Y1 Q2; cases c5; obtain ⟨R5, m3, k3, N0⟩ := Kd.V_get HO_244002.out z32 n0 Y1 (by first | exact Q2 | exact dt | (have e_ := (Kd.V_reads' HO_244002.out).1; omega)); obtain ⟨V4, M4, K4, Q4, rfl, E0, A0, C0, I0⟩ := Qap k3; have u0 := N0 3 _ rfl; rw [Qaf _ _ 3 (by omega)] at u0; replace u0 := Option.some.inj (u0.symm.trans V0)
     injection u0 with hva_ hvn_ hvc_
     rw [hva_] at A0; rw [hvc_] at E0; have S4 := am_ (show Kd.V Qbm 107 _ w.heap.size _ _ ((Qab l0_2 n0).f1.f2) from Kd.V_mk E0 A0); clear hva_ hvn_ hvc_ A0 E0; have o0 := N0 4 _ rfl; rw [Qaf _ _ 4 (by omega)] at o0; replace o0 := Option.some.inj (o0.symm.trans X0)
     injection o0 with hva_ hvn_ hvc_
     rw [hva_] at I0; rw [hvc_] at C0; have I4 := am_ (show Kd.V Kd.string 9 _ w.heap.size _ _ ((Qab l0_2 n0).f1.f3) from Kd.V_mk C0 I0); clear hva_ hvn_ hvc_ I0 C0 N0 m3; have O4 := am_ P0; have X4 := am_ U0; clear P0 U0; have Y4 := am_ Q0; have N4 := am_ O0; clear Q0 O0; replace Y1 := eq_true Y1; replace Q2 := eq_true Q2; have s3 : 0 ≤ (n0 : Int) := dt; have C3 : n0 < (l0_2.length : Int) := dt; obtain ⟨Z4, X5, U5, Y5, V5, i6, K5, k5, O5, N2, L2, P5, J5, D2, J2, C2, Z1⟩ := Qao (Kd.V_reads' HO_244002.out).2.2 n0 s3 C3; obtain rfl : Q3 = Z4 := (by injection i6); obtain ⟨m6, X3, U3, X1⟩ := Kd.V_get HO_244002.out z32 n0 s3 (by first | exact C3 | exact dt | (have e_ := (Kd.V_reads' HO_244002.out).1; omega)); obtain ⟨s5, M5, C5, A5, rfl, Z0, Y0, C1, D1⟩ := Qap U3; have M0 := X1 3 _ rfl; rw [Qaf _ _ 3 (by omega)] at M0; replace M0 := Option.some.inj (M0.symm.trans N2)
     injection M0 with hva_ hvn_ hvc_
     rw [hva_] at Y0; rw [hvc_] at Z0; have L5 := am_ (show Kd.V Qbm 107 _ w.heap.size _ _ ((Qab l0_2 n0).f1.f2) from Kd.V_mk Z0 Y0); clear hva_ hvn_ hvc_ Y0 Z0; have L0 := X1 4 _ rfl; rw [Qaf _ _ 4 (by omega)] at L0; replace L0 := Option.some.inj (L0.symm.trans L2)
     injection L0 with hva_ hvn_ hvc_
     rw [hva_] at D1; rw [hvc_] at C1; have p5 := am_ (show Kd.V Kd.string 9 _ w.heap.size _ _ ((Qab l0_2 n0).f1.f3) from Kd.V_mk C1 D1); clear hva_ hvn_ hvc_ D1 C1 X1 X3; have l5 := am_ J2; have m5 := am_ D2; clear J2 D2; have i5 := am_ Z1; have Q5 := am_ C2; clear Z1 C2; replace s3 := eq_true s3; replace C3 := eq_true C3; have ea_ := Option.some.inj (V0.symm.trans N2)
     injection ea_ with ea_ en_ ec_
     subst ea_; subst ec_; clear en_; have ea_ := Option.some.inj (X0.symm.trans L2)
     injection ea_ with ea_ en_ ec_
     subst ea_; subst ec_; clear en_; go_wp2; go_roundg k1
     case measure => have := D6.out; omega
     case rel => exact ⟨(wrap64 (n0 + 1)), (V1), (P1), (N1), (Q1), (O1), fr, H', kS D6, ⟨hV HO_244002⟩, ⟨gB L1⟩, ⟨gB V2⟩, ⟨bh HB⟩⟩
    rw [if_neg c8] at H; obtain ⟨X6, Q6⟩ := ef c8; have H' := am_ H; clear H; have _ := n2 U1; have _ := bx3 L1; have Y1 : 0 ≤ (n0 : Int) := dt; have Q2 : n0 < (l0_2.length : Int) := dt; obtain ⟨Q3, Y3, V3, Z3, S3, c5, R4, J4, s4, V0, X0, m4, U4, U0, P0, O0, Q0⟩ := Qao (Kd.V_reads' HO_244002.out).2.2 n0 Y1 Q2; cases c5; obtain ⟨R5, m3, k3, N0⟩ := Kd.V_get HO_244002.out z32 n0 Y1 (by first | exact Q2 | exact dt | (have e_ := (Kd.V_reads' HO_244002.out).1; omega)); obtain ⟨V4, M4, K4, Q4, rfl, E0, A0, C0, I0⟩ := Qap k3; have u0 := N0 3 _ rfl; rw [Qaf _ _ 3 (by omega)] at u0; replace u0 := Option.some.inj (u0.symm.trans V0)
    injection u0 with hva_ hvn_ hvc_
    rw [hva_] at A0; rw [hvc_] at E0; have S4 := am_ (show Kd.V Qbm 107 _ w.heap.size _ _ ((Qab l0_2 n0).f1.f2) from Kd.V_mk E0 A0); clear hva_ hvn_ hvc_ A0 E0; have o0 := N0 4 _ rfl; rw [Qaf _ _ 4 (by omega)] at o0; replace o0 := Option.some.inj (o0.symm.trans X0)
    injection o0 with hva_ hvn_ hvc_
    rw [hva_] at I0; rw [hvc_] at C0; have I4 := am_ (show Kd.V Kd.string 9 _ w.heap.size _ _ ((Qab l0_2 n0).f1.f3) from Kd.V_mk C0 I0); clear hva_ hvn_ hvc_ I0 C0 N0 m3; have O4 := am_ P0; have X4 := am_ U0; clear P0 U0; have Y4 := am_ Q0; have N4 := am_ O0; clear Q0 O0; replace Y1 := eq_true Y1; replace Q2 := eq_true Q2; go_wp2; go_roundg k1
    case measure => have := D6.out; omega
    case rel => exact ⟨(wrap64 (n0 + 1)), (V1), (P1), (N1), (Q1), (O1), fr, H', kS D6, ⟨hV HO_244002⟩, ⟨gB L1⟩, ⟨gB V2⟩, ⟨bh HB⟩⟩
   rw [if_neg c6] at H; have W6 := dF c6; clear c6; replace H := oi8 H; obtain ⟨rfl, rfl, rfl, rfl, rfl, rfl, rfl, rfl⟩ := H; have _ := n2 U1; have _ := bx3 L1; have _ := bx7 V2; go_wp2; refine bodyPost_ret (Qak rfl _ _ u4 32 #[.string (⟨#[]⟩ : ByteArray), .int .i64 0, .int .i64 0, .slice none 0 0, .slice none 0 0, .int .i64 0, .int .i64 0] (0, 0) _ rfl (gP V2 rfl) Tryz.underlying32 rfl (by kernel_rfl)) rfl ?_; exact ⟨_, _, fe, Kd.V_nil _ _ _ _ _, Kd.V_nil _ _ _ _ _, bh HB⟩

def Fu.l0 : Nat → ByteArray → Int → Int → Int → List (S32) → Option (ByteArray × Int × Int × (List (Qaz)) × List ByteArray × Int × Int × Bool)
 | 0, _, _, _, _, _ => none
 | k + 1, x1, x6, o0, u0, n0 => if x6 < (n0.length : Int) then (if 0 ≤ x6 then (if ((Qab n0 x6).f0).toList = x1.toList then (some ((Qab n0 x6).f0, (Qab n0 x6).f1.f0, (Qab n0 x6).f1.f1, (Qab n0 x6).f1.f2, (Qab n0 x6).f1.f3, (Qab n0 x6).f1.f4.f0, (Qab n0 x6).f1.f4.f1, true)) else (Fu.l0 k x1 (wrap64 (x6 + 1)) o0 u0 n0)) else (none)) else (some ((⟨#[]⟩ : ByteArray), 0, 0, ([] : List (Qaz)), ([] : List ByteArray), 0, 0, false))
def Fu.f (k : Nat) (a0_0 a0_1 : Int) (l0_2 : List (S32)) (a1 : ByteArray) : Option (ByteArray × Int × Int × (List (Qaz)) × List ByteArray × Int × Int × Bool) := Fu.l0 k a1 0 a0_0 a0_1 l0_2
theorem Fu.mono_l : ∀ k, (∀ y0 y1 y2 y3 y4, LeO (Fu.l0 k y0 y1 y2 y3 y4) (Fu.l0 (k + 1) y0 y1 y2 y3 y4))
 | 0 => fun _ _ _ _ _ r h => by simp [Fu.l0] at h
 | k + 1 => by
  have n0 := Fu.mono_l k
  ·
   intro y0 y1 y2 y3 y4; unfold Fu.l0; repeat' first | (with_reducible first | exact n0 _ _ _ _ _ | exact LeO.refl _ | exact LeO.none _ | refine LeO.ite ?_ ?_ | refine LeO.bind ?_ (fun _ => ?_)) | exact n0 _ _ _ _ _ | refine LeO.ite ?_ ?_ | refine LeO.bind ?_ (fun _ => ?_)
theorem Fu.mono : ∀ a0 a1 a2 a3 k, LeO (Fu.f k a0 a1 a2 a3) (Fu.f (k + 1) a0 a1 a2 a3) := by
 intro a0 a1 a2 a3 k; have n0 := Fu.mono_l k; unfold Fu.f; repeat' first | (with_reducible first | exact n0 _ _ _ _ _ | exact LeO.refl _ | exact LeO.none _ | refine LeO.ite ?_ ?_ | refine LeO.bind ?_ (fun _ => ?_)) | exact n0 _ _ _ _ _ | refine LeO.ite ?_ ?_ | refine LeO.bind ?_ (fun _ => ?_)
theorem Fu.calls (k : Nat) (a0_0 a0_1 : Int) (C2 : Nat → Prop) (A0_2 : Option Addr) (c0_2 : Nat) (l0_2 : List (S32)) (a1 r1 : ByteArray) (r2 r3 : Int) (r4 : List (Qaz)) (r5 : List ByteArray) (r6 r7 : Int) (r8 : Bool) (w : World) (S4 : Kd.V k32 32 w w.heap.size (fun k_ => C2 k_) (.slice A0_2 l0_2.length c0_2) l0_2) (h : Fu.f k a0_0 a0_1 l0_2 a1 = some (r1, r2, r3, r4, r5, r6, r7, r8)) :
  Calls Tryz.prog 42 #[.agg #[.int .i64 a0_0, .int .i64 a0_1, .slice A0_2 l0_2.length c0_2], .string a1] w fun e w' => ∃ R5 S5 : Value, e = .returned (.tuple #[.agg #[.string r1, .int .i64 r2, .int .i64 r3, R5, S5, .int .i64 r6, .int .i64 r7], .bool r8]) ∧ Kd.V Qbm 107 w' w.heap.size (fun k_ => (C2 k_ ∨ w.heap.size ≤ k_)) R5 r4 ∧ Kd.V Kd.string 9 w' w.heap.size (fun k_ => (C2 k_ ∨ w.heap.size ≤ k_)) S5 r5 ∧ Below w.heap.size w w' := by
 have V5 := Tryz.underlying24; have U5 := Tryz.underlying32; have D2 := am_ (show Kd.V k32 32 w w.heap.size (fun k_ => (C2 k_ ∨ w.heap.size ≤ k_)) (.slice A0_2 l0_2.length c0_2) l0_2 from Kd.V_mono S4 (fun k_ hk => .inl hk)); have HB := am_ (Below.refl w.heap.size w); have H := h; unfold Fu.f at H; clear h; have H' := am_ H; clear H; go_enter Tryz.func42, Tryz.ntmps42
 go_wp2_with (first | (refine bf_ 2 #[.int .i64 a0_0, .int .i64 a0_1, .slice A0_2 l0_2.length c0_2] 24 HB ?_; intro K4 hg w3 hb P0 P5 HB; replace D2 := tVe D2 hg hb; clear hb hg) | (refine bf_ 4 #[.string (⟨#[]⟩ : ByteArray), .int .i64 0, .int .i64 0, .slice none 0 0, .slice none 0 0, .int .i64 0, .int .i64 0] 32 HB ?_; intro s3 hg w4 hb P1 O5 HB; replace D2 := tVe D2 hg hb; obtain ⟨X0, P4⟩ := tN P0 hg; replace P0 := tBb P0 hb; clear hb hg))
 go_loopg [6] k (fun kq v6 w' => ∃ (n0 : Int) (Y0 : ByteArray) (Z0 : Int) (C1 : Int) (V0 : Int) (U0 : Int), v6 = .int .i64 n0 ∧ Asc (Fu.l0 kq a1 n0 a0_0 a0_1 l0_2 = some (r1, r2, r3, r4, r5, r6, r7, r8)) ∧ Asc (kq ≤ k) ∧ Asc (Kd.V k32 32 w' w.heap.size (fun k_ => (C2 k_ ∨ w.heap.size ≤ k_) ∧ k_ ≠ K4 ∧ k_ ≠ s3) (.slice A0_2 l0_2.length c0_2) l0_2) ∧ Asc (w'.heap[K4]? = some (.cells #[.int .i64 a0_0, .int .i64 a0_1, (.slice A0_2 l0_2.length c0_2)] 24 (0, 0))) ∧ Asc (w'.heap[s3]? = some (.cells #[.string Y0, .int .i64 Z0, .int .i64 C1, (.slice none 0 0), (.slice none 0 0), .int .i64 V0, .int .i64 U0] 32 (0, 0))) ∧ Asc (Below w.heap.size w w'))
 case atStart => exact ⟨(0), ((⟨#[]⟩ : ByteArray)), (0), (0), (0), (0), fr, H', ⟨Nat.le_refl _⟩, ⟨gV D2⟩, ⟨gB P0⟩, ⟨gB P1⟩, ⟨bh HB⟩⟩
 case round =>
  clear H'; obtain ⟨n0, Y0, Z0, C1, V0, U0, rfl, HA, Q5, HO_249002, P0, P1, HB⟩ := hrel
  cases gk with
  | zero => exact absurd HA.out (by simp [Fu.l0])
  | succ k1 =>
   have H := HA.out; clear HA; simp only [Fu.l0] at H
   by_cases c5 : n0 < (l0_2.length : Int)
   ·
    rw [if_pos c5] at H; have C5 := dT c5; clear c5; revert H; refine gi (fun W5 H => ?_)
    by_cases c7 : ((Qab l0_2 n0).f0).toList = a1.toList
    ·
     rw [if_pos c7] at H; obtain ⟨J5, I5⟩ := et c7; clear c7; replace H := oi8 H; obtain ⟨rfl, rfl, rfl, rfl, rfl, rfl, rfl, rfl⟩ := H; have _ := n2 X0; have _ := bx3 P0; have V1 : 0 ≤ (n0 : Int) := dt; have Y1 : n0 < (l0_2.length : Int) := dt; obtain ⟨L4, D3, C3, u3, I3, O4, N3, s4, Q3, D1, L1, E4, U3, N0, Q0, O0, M0⟩ := Qao (Kd.V_reads' HO_249002.out).2.2 n0 V1 Y1; cases O4; obtain ⟨Q4, J2, N2, L0⟩ := Kd.V_get HO_249002.out z32 n0 V1 (by first | exact Y1 | exact dt | (have e_ := (Kd.V_reads' HO_249002.out).1; omega)); obtain ⟨J3, k4, u4, I4, rfl, A0, I0, C0, E0⟩ := Qap N2; have o0 := L0 3 _ rfl; rw [Qaf _ _ 3 (by omega)] at o0; replace o0 := Option.some.inj (o0.symm.trans D1)
     injection o0 with hva_ hvn_ hvc_
     rw [hva_] at I0; rw [hvc_] at A0; have S3 := am_ (show Kd.V Qbm 107 _ w.heap.size _ _ ((Qab l0_2 n0).f1.f2) from Kd.V_mk A0 I0); clear hva_ hvn_ hvc_ I0 A0; have u0 := L0 4 _ rfl; rw [Qaf _ _ 4 (by omega)] at u0; replace u0 := Option.some.inj (u0.symm.trans L1)
     injection u0 with hva_ hvn_ hvc_
     rw [hva_] at E0; rw [hvc_] at C0; have J4 := am_ (show Kd.V Kd.string 9 _ w.heap.size _ _ ((Qab l0_2 n0).f1.f3) from Kd.V_mk C0 E0); clear hva_ hvn_ hvc_ E0 C0 L0 J2; have Y3 := am_ Q0; have m4 := am_ N0; clear Q0 N0; have L3 := am_ M0; have D4 := am_ O0; clear M0 O0; replace V1 := eq_true V1; replace Y1 := eq_true Y1; have C4 : 0 ≤ (n0 : Int) := dt; have Z3 : n0 < (l0_2.length : Int) := dt; obtain ⟨R4, M5, D5, K5, E5, L5, Y4, A5, k5, Q2, k3, U4, W4, V2, Z2, Y2, m3⟩ := Qao (Kd.V_reads' HO_249002.out).2.2 n0 C4 Z3; obtain rfl : L4 = R4 := (by injection L5); obtain ⟨N5, N4, M4, L2⟩ := Kd.V_get HO_249002.out z32 n0 C4 (by first | exact Z3 | exact dt | (have e_ := (Kd.V_reads' HO_249002.out).1; omega)); obtain ⟨s5, p5, i5, m5, rfl, X1, U1, Z1, Q1⟩ := Qap M4; have O1 := L2 3 _ rfl; rw [Qaf _ _ 3 (by omega)] at O1; replace O1 := Option.some.inj (O1.symm.trans Q2)
     injection O1 with hva_ hvn_ hvc_
     rw [hva_] at U1; rw [hvc_] at X1; have V3 := am_ (show Kd.V Qbm 107 _ w.heap.size _ _ ((Qab l0_2 n0).f1.f2) from Kd.V_mk X1 U1); clear hva_ hvn_ hvc_ U1 X1; have N1 := L2 4 _ rfl; rw [Qaf _ _ 4 (by omega)] at N1; replace N1 := Option.some.inj (N1.symm.trans k3)
     injection N1 with hva_ hvn_ hvc_
     rw [hva_] at Q1; rw [hvc_] at Z1; have X3 := am_ (show Kd.V Kd.string 9 _ w.heap.size _ _ ((Qab l0_2 n0).f1.f3) from Kd.V_mk Z1 Q1); clear hva_ hvn_ hvc_ Q1 Z1 L2 N4; have Z4 := am_ Z2; have l5 := am_ V2; clear Z2 V2; have V4 := am_ m3; have X4 := am_ Y2; clear m3 Y2; replace C4 := eq_true C4; replace Z3 := eq_true Z3; have ea_ := Option.some.inj (D1.symm.trans Q2)
     injection ea_ with ea_ en_ ec_
     subst ea_; subst ec_; clear en_; have ea_ := Option.some.inj (L1.symm.trans k3)
     injection ea_ with ea_ en_ ec_
     subst ea_; subst ec_; clear en_; have _ := bx7 P1; go_wp2; refine bodyPost_ret (Qak rfl _ _ s3 32 #[.string ((Qab l0_2 n0).f0), .int .i64 ((Qab l0_2 n0).f1.f0), .int .i64 ((Qab l0_2 n0).f1.f1), .slice D3 ((Qab l0_2 n0).f1.f2).length C3, .slice u3 ((Qab l0_2 n0).f1.f3).length I3, .int .i64 ((Qab l0_2 n0).f1.f4.f0), .int .i64 ((Qab l0_2 n0).f1.f4.f1)] (0, 0) _ rfl (gP P1 rfl) Tryz.underlying32 rfl (by kernel_rfl)) rfl ?_; exact ⟨_, _, fe, gV V3, gV X3, bh HB⟩
    rw [if_neg c7] at H; obtain ⟨J5, I5⟩ := ef c7; have H' := am_ H; clear H; have _ := n2 X0; have _ := bx3 P0; have V1 : 0 ≤ (n0 : Int) := dt; have Y1 : n0 < (l0_2.length : Int) := dt; obtain ⟨L4, D3, C3, u3, I3, O4, N3, s4, Q3, D1, L1, E4, U3, N0, Q0, O0, M0⟩ := Qao (Kd.V_reads' HO_249002.out).2.2 n0 V1 Y1; cases O4; obtain ⟨Q4, J2, N2, L0⟩ := Kd.V_get HO_249002.out z32 n0 V1 (by first | exact Y1 | exact dt | (have e_ := (Kd.V_reads' HO_249002.out).1; omega)); obtain ⟨J3, k4, u4, I4, rfl, A0, I0, C0, E0⟩ := Qap N2; have o0 := L0 3 _ rfl; rw [Qaf _ _ 3 (by omega)] at o0; replace o0 := Option.some.inj (o0.symm.trans D1)
    injection o0 with hva_ hvn_ hvc_
    rw [hva_] at I0; rw [hvc_] at A0; have S3 := am_ (show Kd.V Qbm 107 _ w.heap.size _ _ ((Qab l0_2 n0).f1.f2) from Kd.V_mk A0 I0); clear hva_ hvn_ hvc_ I0 A0; have u0 := L0 4 _ rfl; rw [Qaf _ _ 4 (by omega)] at u0; replace u0 := Option.some.inj (u0.symm.trans L1)
    injection u0 with hva_ hvn_ hvc_
    rw [hva_] at E0; rw [hvc_] at C0; have J4 := am_ (show Kd.V Kd.string 9 _ w.heap.size _ _ ((Qab l0_2 n0).f1.f3) from Kd.V_mk C0 E0); clear hva_ hvn_ hvc_ E0 C0 L0 J2; have Y3 := am_ Q0; have m4 := am_ N0; clear Q0 N0; have L3 := am_ M0; have D4 := am_ O0; clear M0 O0; replace V1 := eq_true V1; replace Y1 := eq_true Y1; go_wp2; go_roundg k1
    case measure => have := Q5.out; omega
    case rel => exact ⟨(wrap64 (n0 + 1)), (Y0), (Z0), (C1), (V0), (U0), fr, H', kS Q5, ⟨hV HO_249002⟩, ⟨gB P0⟩, ⟨gB P1⟩, ⟨bh HB⟩⟩
   rw [if_neg c5] at H; have C5 := dF c5; clear c5; replace H := oi8 H; obtain ⟨rfl, rfl, rfl, rfl, rfl, rfl, rfl, rfl⟩ := H; have _ := n2 X0; have _ := bx3 P0; have _ := bx7 P1; go_wp2; refine bodyPost_ret (Qak rfl _ _ s3 32 #[.string (⟨#[]⟩ : ByteArray), .int .i64 0, .int .i64 0, .slice none 0 0, .slice none 0 0, .int .i64 0, .int .i64 0] (0, 0) _ rfl (gP P1 rfl) Tryz.underlying32 rfl (by kernel_rfl)) rfl ?_; exact ⟨_, _, fe, Kd.V_nil _ _ _ _ _, Kd.V_nil _ _ _ _ _, bh HB⟩

def Gd.f (a0 : Int) : Option ByteArray := if 0 ≤ a0 ∧ a0 < 18446744073709551616 then some (Sa.numB a0.toNat) else none
theorem Gd.calls (a0 : Int) (r : ByteArray) (w : World) (h : Gd.f a0 = some r) :
  Calls Tryz.prog 86 #[.int .u64 a0] w fun e w' => e = .returned (.string r) ∧ Below w.heap.size w w' := by
 unfold Gd.f at h
 by_cases hs : 0 ≤ a0 ∧ a0 < 18446744073709551616
 ·
  rw [if_pos hs] at h; obtain rfl := Option.some.inj h; have k := Sa.rnum_c a0.toNat (by omega) w; rw [show ((a0.toNat : Nat) : Int) = a0 from by omega] at k; exact k
 rw [if_neg hs] at h; cases h

def Gl.f (a0 : Int) : Option (Bool) := if a0 > 0 then (some ((Int.tmod a0 3) == 0)) else (some false)
theorem Gl.calls (a0 : Int) (r : Bool) (w : World) (h : Gl.f a0 = some r) :
  Calls Tryz.prog 43 #[.int .i64 a0] w fun e w' => e = .returned (.bool r) ∧ Qae w w' := by
 have H := h; unfold Gl.f at H; clear h
 by_cases c2 : a0 > 0
 ·
  rw [if_pos c2] at H; have n0 : decide (0 < a0) = true := dT c2; clear c2; obtain rfl := Option.some.inj H; go_enter Tryz.func43, Tryz.ntmps43; go_wp2; go_ret; exact ⟨fr, by repeat (first | exact Qae.refl _ | apply Qae.step)⟩
 rw [if_neg c2] at H; have n0 : decide (0 < a0) = false := dF c2; clear c2; obtain rfl := Option.some.inj H; go_enter Tryz.func43, Tryz.ntmps43; go_wp2; go_ret; exact ⟨fr, by repeat (first | exact Qae.refl _ | apply Qae.step)⟩

def Fv.f (a0 : Int) : Option (Bool) := if a0 = 4 then (some true) else (if a0 > 4 then (if a0 ≤ 64 then (some ((Int.tmod (wrap64 (a0 - 1)) 3) == 0)) else (some false)) else (some false))
theorem Fv.calls (a0 : Int) (r : Bool) (w : World) (h : Fv.f a0 = some r) :
  Calls Tryz.prog 54 #[.int .i64 a0] w fun e w' => e = .returned (.bool r) ∧ Qae w w' := by
 have H := h; unfold Fv.f at H; clear h
 by_cases c2 : a0 = 4
 ·
  rw [if_pos c2] at H; obtain ⟨o0, n0⟩ := et c2; clear c2; obtain rfl := Option.some.inj H; go_enter Tryz.func54, Tryz.ntmps54; go_wp2; go_ret; exact ⟨fr, by repeat (first | exact Qae.refl _ | apply Qae.step)⟩
 rw [if_neg c2] at H; obtain ⟨o0, n0⟩ := ef c2
 by_cases c3 : a0 > 4
 ·
  rw [if_pos c3] at H; have A0 : decide (4 < a0) = true := dT c3; clear c3
  by_cases c4 : a0 ≤ 64
  ·
   rw [if_pos c4] at H; have u0 := dT c4; clear c4; obtain rfl := Option.some.inj H; go_enter Tryz.func54, Tryz.ntmps54; go_wp2; go_ret; exact ⟨fr, by repeat (first | exact Qae.refl _ | apply Qae.step)⟩
  rw [if_neg c4] at H; have u0 := dF c4; clear c4; obtain rfl := Option.some.inj H; go_enter Tryz.func54, Tryz.ntmps54; go_wp2; go_ret; exact ⟨fr, by repeat (first | exact Qae.refl _ | apply Qae.step)⟩
 rw [if_neg c3] at H; have A0 : decide (4 < a0) = false := dF c3; clear c3; obtain rfl := Option.some.inj H; go_enter Tryz.func54, Tryz.ntmps54; go_wp2; go_ret; exact ⟨fr, by repeat (first | exact Qae.refl _ | apply Qae.step)⟩

def F4.f (a0_0 a0_1 : Int) : Option (Bool) := if a0_0 ≥ 0 then (if a0_0 < 10007 then (if a0_1 ≥ 0 then (some (decide (a0_1 < 10007))) else (some false)) else (some false)) else (some false)
theorem F4.calls (a0_0 a0_1 : Int) (r : Bool) (w : World) (h : F4.f a0_0 a0_1 = some r) :
  Calls Tryz.prog 77 #[.agg #[.int .i64 a0_0, .int .i64 a0_1]] w fun e w' => e = .returned (.bool r) ∧ Below w.heap.size w w' := by
 have I0 := Tryz.underlying28; have HB := am_ (Below.refl w.heap.size w); have H := h; unfold F4.f at H; clear h
 by_cases c2 : a0_0 ≥ 0
 ·
  rw [if_pos c2] at H; have C0 : decide (0 ≤ a0_0) = true := dT c2; clear c2
  by_cases c3 : a0_0 < 10007
  ·
   rw [if_pos c3] at H; have E0 := dT c3; clear c3
   by_cases c4 : a0_1 ≥ 0
   ·
    rw [if_pos c4] at H; have A0 : decide (0 ≤ a0_1) = true := dT c4; clear c4; obtain rfl := Option.some.inj H; go_enter Tryz.func77, Tryz.ntmps77
    go_wp2_with (first | (refine bf_ 1 #[.int .i64 a0_0, .int .i64 a0_1] 28 HB ?_; intro o0 hg w5 hb n0 u0 HB; clear hb hg; have _ := bx2 n0))
    go_ret; exact ⟨fe, bh HB⟩
   rw [if_neg c4] at H; have A0 : decide (0 ≤ a0_1) = false := dF c4; clear c4; obtain rfl := Option.some.inj H; go_enter Tryz.func77, Tryz.ntmps77
   go_wp2_with (first | (refine bf_ 1 #[.int .i64 a0_0, .int .i64 a0_1] 28 HB ?_; intro o0 hg w7 hb n0 u0 HB; clear hb hg; have _ := bx2 n0))
   go_ret; exact ⟨fe, bh HB⟩
  rw [if_neg c3] at H; have E0 := dF c3; clear c3; obtain rfl := Option.some.inj H; go_enter Tryz.func77, Tryz.ntmps77
  go_wp2_with (first | (refine bf_ 1 #[.int .i64 a0_0, .int .i64 a0_1] 28 HB ?_; intro o0 hg w9 hb n0 u0 HB; clear hb hg; have _ := bx2 n0))
  go_ret; exact ⟨fe, bh HB⟩
 rw [if_neg c2] at H; have C0 : decide (0 ≤ a0_0) = false := dF c2; clear c2; obtain rfl := Option.some.inj H; go_enter Tryz.func77, Tryz.ntmps77
 go_wp2_with (first | (refine bf_ 1 #[.int .i64 a0_0, .int .i64 a0_1] 28 HB ?_; intro o0 hg L0 hb n0 u0 HB; clear hb hg; have _ := bx2 n0))
 go_ret; exact ⟨fe, bh HB⟩
mutual
def G0.j0 : Nat → Bool → Int → Int → List ByteArray → Option (Bool)
 | 0, _, _, _, _ => none
 | k + 1, A0, o0, u0, n0 => if A0 = true then (some false) else (G0.l0 k 0 o0 u0 n0)
def G0.l0 : Nat → Int → Int → Int → List ByteArray → Option (Bool)
 | 0, _, _, _, _ => none
 | k + 1, x3, o0, u0, n0 => if x3 < (n0.length : Int) then (if 0 ≤ x3 then (if ((Qby ByteArray.empty n0 x3).size : Int) < 1 then (some false) else (if ((Qby ByteArray.empty n0 x3).size : Int) > 48 then (some false) else (G0.l0 k (wrap64 (x3 + 1)) o0 u0 n0))) else (none)) else (some true)
end
theorem G0.mono_l : ∀ k, (∀ y0 y1 y2 y3, LeO (G0.j0 k y0 y1 y2 y3) (G0.j0 (k + 1) y0 y1 y2 y3)) ∧ (∀ y0 y1 y2 y3, LeO (G0.l0 k y0 y1 y2 y3) (G0.l0 (k + 1) y0 y1 y2 y3))
 | 0 => ⟨fun _ _ _ _ r h => by simp [G0.j0] at h, fun _ _ _ _ r h => by simp [G0.l0] at h⟩
 | k + 1 => by
  obtain ⟨o0, n0⟩ := G0.mono_l k; refine ⟨?_, ?_⟩
  ·
   intro y0 y1 y2 y3; unfold G0.j0; repeat' first | (with_reducible first | exact o0 _ _ _ _ | exact n0 _ _ _ _ | exact LeO.refl _ | exact LeO.none _ | refine LeO.ite ?_ ?_ | refine LeO.bind ?_ (fun _ => ?_)) | exact o0 _ _ _ _ | exact n0 _ _ _ _ | refine LeO.ite ?_ ?_ | refine LeO.bind ?_ (fun _ => ?_)
  intro y0 y1 y2 y3; unfold G0.l0; repeat' first | (with_reducible first | exact o0 _ _ _ _ | exact n0 _ _ _ _ | exact LeO.refl _ | exact LeO.none _ | refine LeO.ite ?_ ?_ | refine LeO.bind ?_ (fun _ => ?_)) | exact o0 _ _ _ _ | exact n0 _ _ _ _ | refine LeO.ite ?_ ?_ | refine LeO.bind ?_ (fun _ => ?_)
def H6.f (a0 : Int) : Option (Int) := (Fv.f a0).bind fun n0 => (if n0 = true then (some (wrap64 (a0 - (wrap64 (Int.tdiv (wrap64 (a0 - 1)) 3))))) else (some 0))
theorem H6.calls (a0 r : Int) (w : World) (h : H6.f a0 = some r) :
  Calls Tryz.prog 104 #[.int .i64 a0] w fun e w' => e = .returned (.int .i64 r) ∧ Qae w w' := by
 have H := h; unfold H6.f at H; clear h; replace H := bi H; obtain ⟨n0, A2, H⟩ := H; try dsimp only at H
 replace H := ib H; obtain ⟨rfl, H⟩ | ⟨rfl, H⟩ := H
 ·
  obtain rfl := Option.some.inj H; go_enter Tryz.func104, Tryz.ntmps104
  go_wp2_with (first | (refine gl_ (some 5) Tryz.func54 #[.int .i64 a0] ?_; (with_reducible refine (Fv.calls a0 true _ A2.out).mono ?_); rintro e w' ⟨rfl, ⟨nd, rfl⟩⟩; refine ⟨_, rfl, ?_⟩))
  go_ret; exact ⟨fr, by repeat (first | exact Qae.refl _ | apply Qae.step)⟩
 obtain rfl := Option.some.inj H; go_enter Tryz.func104, Tryz.ntmps104
 go_wp2_with (first | (refine gl_ (some 5) Tryz.func54 #[.int .i64 a0] ?_; (with_reducible refine (Fv.calls a0 false _ A2.out).mono ?_); rintro e w' ⟨rfl, ⟨nd, rfl⟩⟩; refine ⟨_, rfl, ?_⟩))
 go_ret; exact ⟨fr, by repeat (first | exact Qae.refl _ | apply Qae.step)⟩

mutual
def F9.l0 : Nat → ByteArray → ByteArray → Int → Option (Bool)
 | 0, _, _, _ => none
 | k + 1, x0, x1, x5 => if x5 < (x0.size : Int) then (F9.j1 k x0 x1 x5 (decide (x5 < (x1.size : Int)))) else (none)
def F9.j1 : Nat → ByteArray → ByteArray → Int → Bool → Option (Bool)
 | 0, _, _, _, _ => none
 | k + 1, x0, x1, x5, n0 => if n0 = true then (if 0 ≤ x5 then (if x5 < (x0.size : Int) then (if x5 < (x1.size : Int) then (if (bt x0 x5) = (bt x1 x5) then (F9.l0 k x0 x1 (wrap64 (x5 + 1))) else (some (decide ((bt x0 x5) < (bt x1 x5))))) else (none)) else (none)) else (none)) else (none)
end
def F9.f (k : Nat) (a0 a1 : ByteArray) : Option (Bool) := F9.l0 k a0 a1 0
theorem F9.mono_l : ∀ k, (∀ y0 y1 y2, LeO (F9.l0 k y0 y1 y2) (F9.l0 (k + 1) y0 y1 y2)) ∧ (∀ y0 y1 y2 y3, LeO (F9.j1 k y0 y1 y2 y3) (F9.j1 (k + 1) y0 y1 y2 y3))
 | 0 => ⟨fun _ _ _ r h => by simp [F9.l0] at h, fun _ _ _ _ r h => by simp [F9.j1] at h⟩
 | k + 1 => by
  obtain ⟨o0, n0⟩ := F9.mono_l k; refine ⟨?_, ?_⟩
  ·
   intro y0 y1 y2; unfold F9.l0; repeat' first | (with_reducible first | exact o0 _ _ _ | exact n0 _ _ _ _ | exact LeO.refl _ | exact LeO.none _ | refine LeO.ite ?_ ?_ | refine LeO.bind ?_ (fun _ => ?_)) | exact o0 _ _ _ | exact n0 _ _ _ _ | refine LeO.ite ?_ ?_ | refine LeO.bind ?_ (fun _ => ?_)
  intro y0 y1 y2 y3; unfold F9.j1; repeat' first | (with_reducible first | exact o0 _ _ _ | exact n0 _ _ _ _ | exact LeO.refl _ | exact LeO.none _ | refine LeO.ite ?_ ?_ | refine LeO.bind ?_ (fun _ => ?_)) | exact o0 _ _ _ | exact n0 _ _ _ _ | refine LeO.ite ?_ ?_ | refine LeO.bind ?_ (fun _ => ?_)
theorem F9.mono : ∀ a0 a1 k, LeO (F9.f k a0 a1) (F9.f (k + 1) a0 a1) := by
 intro a0 a1 k; obtain ⟨o0, n0⟩ := F9.mono_l k; unfold F9.f; repeat' first | (with_reducible first | exact o0 _ _ _ | exact n0 _ _ _ _ | exact LeO.refl _ | exact LeO.none _ | refine LeO.ite ?_ ?_ | refine LeO.bind ?_ (fun _ => ?_)) | exact o0 _ _ _ | exact n0 _ _ _ _ | refine LeO.ite ?_ ?_ | refine LeO.bind ?_ (fun _ => ?_)
theorem F9.calls (k : Nat) (a0 a1 : ByteArray) (r : Bool) (w : World) (h : F9.f k a0 a1 = some r) :
  Calls Tryz.prog 105 #[.string a0, .string a1] w fun e w' => e = .returned (.bool r) ∧ Qae w w' := by
 have H := h; unfold F9.f at H; clear h; have H' := am_ H; clear H; go_enter Tryz.func105, Tryz.ntmps105; go_wp2; repeat (go_quiet (fail); try go_wp2)
 go_loopg [5] k (fun kq v5 w' => ∃ (n0 : Int), v5 = .int .i64 n0 ∧ Asc (F9.l0 kq a0 a1 n0 = some r) ∧ Asc (kq ≤ k) ∧ Qae w w')
 case atStart => exact ⟨(0), fr, H', ⟨Nat.le_refl _⟩, by repeat (first | exact Qae.refl _ | apply Qae.step)⟩
 case round =>
  clear H'; obtain ⟨n0, rfl, HA, N0, ⟨m1, rfl⟩⟩ := hrel
  cases gk with
  | zero => exact absurd HA.out (by simp [F9.l0])
  | succ k1 =>
   have H := HA.out; clear HA; simp only [F9.l0] at H; have O0 := am_ H; clear H
   go_upto_region 2 with (fail)
   repeat (go_quiet (fail); go_upto_region 2 with (fail))
   go_cut [15] (fun C1 wc => ∃ (kq : Nat) (o0 : Bool), C1 = .bool o0 ∧ Asc (F9.j1 kq a0 a1 n0 o0 = some r) ∧ Asc (kq ≤ k1) ∧ Qae w wc)
   case first =>
    have H := O0.out; clear O0; revert H; refine gi (fun E0 H => ?_)
    (first | rw [E0] | (simp only [Qay, Qa3]; rw [E0]) | skip)
    have H' := am_ H; clear H; go_wp2; repeat (go_quiet (fail); try go_wp2)
    go_meet
    case rel => exact ⟨_, (decide (n0 < (a1.size : Int))), fr, H', ⟨by have := N0.out; first | omega | exact Nat.le_refl _⟩, by repeat (first | exact Qae.refl _ | apply Qae.step)⟩
   case rest =>
    clear O0; obtain ⟨kq, o0, rfl, HA, V0, ⟨Q1, rfl⟩⟩ := hcut
    cases kq with
    | zero => exact absurd HA.out (by simp [F9.j1])
    | succ P1 =>
     have H := HA.out; clear HA; simp only [F9.j1] at H
     by_cases c5 : o0 = true
     ·
      subst c5; rw [if_pos rfl] at H; revert H; refine gi (fun Z0 H => ?_); revert H; refine gi (fun L1 H => ?_); revert H; refine gi (fun N1 H => ?_)
      by_cases u0 : (bt a0 n0) = (bt a1 n0)
      ·
       rw [if_pos u0] at H; obtain ⟨I0, L0⟩ := et u0; clear u0; have H' := am_ H; clear H; have p8 : 0 ≤ (n0 : Int) := dt; have q8 : n0 < (a0.size : Int) := dt; have Y0 := Qi9 a0 n0; replace p8 := eq_true p8; replace q8 := eq_true q8; have C0 : 0 ≤ (n0 : Int) := dt; have A0 : n0 < (a1.size : Int) := dt; have M0 := Qi9 a1 n0; replace C0 := eq_true C0; replace A0 := eq_true A0; go_wp2; repeat (go_quiet (fail); try go_wp2)
       go_roundg P1
       case measure => have := N0.out; have := V0.out; omega
       case rel => exact ⟨(wrap64 (n0 + 1)), fr, H', ⟨by have := N0.out; have := V0.out; omega⟩, by repeat (first | exact Qae.refl _ | apply Qae.step)⟩
      rw [if_neg u0] at H; obtain ⟨I0, L0⟩ := ef u0; obtain rfl := Option.some.inj H; have p8 : 0 ≤ (n0 : Int) := dt; have q8 : n0 < (a0.size : Int) := dt; have Y0 := Qi9 a0 n0; replace p8 := eq_true p8; replace q8 := eq_true q8; have C0 : 0 ≤ (n0 : Int) := dt; have A0 : n0 < (a1.size : Int) := dt; have M0 := Qi9 a1 n0; replace C0 := eq_true C0; replace A0 := eq_true A0; have U0 : 0 ≤ (n0 : Int) := dt; have P0 : n0 < (a0.size : Int) := dt; have O1 := Qi9 a0 n0; replace U0 := eq_true U0; replace P0 := eq_true P0; have X0 : 0 ≤ (n0 : Int) := dt; have Q0 : n0 < (a1.size : Int) := dt; have D1 := Qi9 a1 n0; replace X0 := eq_true X0; replace Q0 := eq_true Q0; go_wp2; repeat (go_quiet (fail); try go_wp2)
      go_ret; exact ⟨fr, by repeat (first | exact Qae.refl _ | apply Qae.step)⟩
     replace c5 := Bool.eq_false_iff.mpr c5; subst c5; have H1 : (none) = some r := by rw [if_neg (show ¬ (false = true) by decide)] at H; exact H
     exact absurd H1 (by simp)
mutual
def F1.j0 : Nat → Int → Bool → Int → Int → List (Qaz) → List ByteArray → Int → Int → Option (Bool)
 | 0, _, _, _, _, _, _, _, _ => none
 | k + 1, x1, I0, n0, C0, o0, u0, E0, A0 => if I0 = true then (none) else (F1.l0 k x1 0 n0 C0 o0 u0 E0 A0)
def F1.l0 : Nat → Int → Int → Int → Int → List (Qaz) → List ByteArray → Int → Int → Option (Bool)
 | 0, _, _, _, _, _, _, _, _ => none
 | k + 1, x1, x6, A0, u0, n0, o0, E0, C0 => if x6 < (n0.length : Int) then (none) else (if u0 = 1 then (F1.j2 k x1 (decide ((o0.length : Int) > 0)) A0 u0 n0 o0 E0 C0) else (F1.j2 k x1 false A0 u0 n0 o0 E0 C0))
def F1.j2 : Nat → Int → Bool → Int → Int → List (Qaz) → List ByteArray → Int → Int → Option (Bool)
 | 0, _, _, _, _, _, _, _, _ => none
 | k + 1, x1, L0, u0, o0, A0, n0, E0, C0 => if L0 = true then (none) else (if o0 > 1 then ((H6.f x1).bind fun I0 => (if (n0.length : Int) < I0 then (none) else (F1.j3 k (decide ((n0.length : Int) > x1)) u0 o0 A0 n0 E0 C0))) else (F1.j3 k false u0 o0 A0 n0 E0 C0))
def F1.j3 : Nat → Bool → Int → Int → List (Qaz) → List ByteArray → Int → Int → Option (Bool)
 | 0, _, _, _, _, _, _, _ => none
 | k + 1, I0, n0, C0, o0, u0, E0, A0 => if I0 = true then (none) else (F1.l1 k 0 n0 C0 o0 u0 E0 A0)
def F1.l1 : Nat → Int → Int → Int → List (Qaz) → List ByteArray → Int → Int → Option (Bool)
 | 0, _, _, _, _, _, _, _ => none
 | k + 1, x8, C0, A0, E0, n0, u0, o0 => if x8 < (n0.length : Int) then (if 0 ≤ x8 then (if ((Qby ByteArray.empty n0 x8).size : Int) = 32 then (if x8 > 0 then (if 0 ≤ (wrap64 (x8 - 1)) then (if (wrap64 (x8 - 1)) < (n0.length : Int) then ((F9.f k (Qby ByteArray.empty n0 (wrap64 (x8 - 1))) (Qby ByteArray.empty n0 x8)).bind fun M0 => (if M0 = true then (F1.l1 k (wrap64 (x8 + 1)) C0 A0 E0 n0 u0 o0) else (none))) else (none)) else (none)) else (F1.l1 k (wrap64 (x8 + 1)) C0 A0 E0 n0 u0 o0)) else (none)) else (none)) else ((F4.f u0 o0).bind fun L0 => ((Gl.f A0).bind fun I0 => (if L0 = true then (if I0 = true then (some true) else (if u0 = 0 then (some (o0 == 0)) else (none))) else (none))))
end
def F1.f (k : Nat) (a0_0 a0_1 : Int) (l0_2 : List (Qaz)) (o0 : List ByteArray) (A0 u0 a1 : Int) : Option (Bool) := (Fv.f a1).bind fun n0 => (if n0 = true then (if a0_0 < 1 then (none) else (if a0_0 > a1 then (none) else (if a0_1 < 1 then (none) else (if a0_1 > 1048576 then (none) else (F1.j0 k a1 (decide ((l0_2.length : Int) > 4)) a0_0 a0_1 l0_2 o0 A0 u0))))) else (none))
theorem F1.mono_l : ∀ k, (∀ y0 y1 y2 y3 y4 y5 y6 y7, LeO (F1.j0 k y0 y1 y2 y3 y4 y5 y6 y7) (F1.j0 (k + 1) y0 y1 y2 y3 y4 y5 y6 y7)) ∧ (∀ y0 y1 y2 y3 y4 y5 y6 y7, LeO (F1.l0 k y0 y1 y2 y3 y4 y5 y6 y7) (F1.l0 (k + 1) y0 y1 y2 y3 y4 y5 y6 y7)) ∧ (∀ y0 y1 y2 y3 y4 y5 y6 y7, LeO (F1.j2 k y0 y1 y2 y3 y4 y5 y6 y7) (F1.j2 (k + 1) y0 y1 y2 y3 y4 y5 y6 y7)) ∧ (∀ y0 y1 y2 y3 y4 y5 y6, LeO (F1.j3 k y0 y1 y2 y3 y4 y5 y6) (F1.j3 (k + 1) y0 y1 y2 y3 y4 y5 y6)) ∧ (∀ y0 y1 y2 y3 y4 y5 y6, LeO (F1.l1 k y0 y1 y2 y3 y4 y5 y6) (F1.l1 (k + 1) y0 y1 y2 y3 y4 y5 y6))
 | 0 => ⟨fun _ _ _ _ _ _ _ _ r h => by simp [F1.j0] at h, fun _ _ _ _ _ _ _ _ r h => by simp [F1.l0] at h, fun _ _ _ _ _ _ _ _ r h => by simp [F1.j2] at h, fun _ _ _ _ _ _ _ r h => by simp [F1.j3] at h, fun _ _ _ _ _ _ _ r h => by simp [F1.l1] at h⟩
 | k + 1 => by
  obtain ⟨u0, o0, A0, C0, n0⟩ := F1.mono_l k; refine ⟨?_, ?_, ?_, ?_, ?_⟩
  ·
   intro y0 y1 y2 y3 y4 y5 y6 y7; unfold F1.j0; repeat' first | (with_reducible first | exact u0 _ _ _ _ _ _ _ _ | exact o0 _ _ _ _ _ _ _ _ | exact A0 _ _ _ _ _ _ _ _ | exact C0 _ _ _ _ _ _ _ | exact n0 _ _ _ _ _ _ _ | apply F9.mono | apply G0.mono | exact LeO.refl _ | exact LeO.none _ | refine LeO.ite ?_ ?_ | refine LeO.bind ?_ (fun _ => ?_)) | exact u0 _ _ _ _ _ _ _ _ | exact o0 _ _ _ _ _ _ _ _ | exact A0 _ _ _ _ _ _ _ _ | exact C0 _ _ _ _ _ _ _ | exact n0 _ _ _ _ _ _ _ | refine LeO.ite ?_ ?_ | refine LeO.bind ?_ (fun _ => ?_)
  ·
   intro y0 y1 y2 y3 y4 y5 y6 y7; unfold F1.l0; repeat' first | (with_reducible first | exact u0 _ _ _ _ _ _ _ _ | exact o0 _ _ _ _ _ _ _ _ | exact A0 _ _ _ _ _ _ _ _ | exact C0 _ _ _ _ _ _ _ | exact n0 _ _ _ _ _ _ _ | apply F9.mono | apply G0.mono | exact LeO.refl _ | exact LeO.none _ | refine LeO.ite ?_ ?_ | refine LeO.bind ?_ (fun _ => ?_)) | exact u0 _ _ _ _ _ _ _ _ | exact o0 _ _ _ _ _ _ _ _ | exact A0 _ _ _ _ _ _ _ _ | exact C0 _ _ _ _ _ _ _ | exact n0 _ _ _ _ _ _ _ | refine LeO.ite ?_ ?_ | refine LeO.bind ?_ (fun _ => ?_)
  ·
   intro y0 y1 y2 y3 y4 y5 y6 y7; unfold F1.j2; repeat' first | (with_reducible first | exact u0 _ _ _ _ _ _ _ _ | exact o0 _ _ _ _ _ _ _ _ | exact A0 _ _ _ _ _ _ _ _ | exact C0 _ _ _ _ _ _ _ | exact n0 _ _ _ _ _ _ _ | apply F9.mono | apply G0.mono | exact LeO.refl _ | exact LeO.none _ | refine LeO.ite ?_ ?_ | refine LeO.bind ?_ (fun _ => ?_)) | exact u0 _ _ _ _ _ _ _ _ | exact o0 _ _ _ _ _ _ _ _ | exact A0 _ _ _ _ _ _ _ _ | exact C0 _ _ _ _ _ _ _ | exact n0 _ _ _ _ _ _ _ | refine LeO.ite ?_ ?_ | refine LeO.bind ?_ (fun _ => ?_)
  ·
   intro y0 y1 y2 y3 y4 y5 y6; unfold F1.j3; repeat' first | (with_reducible first | exact u0 _ _ _ _ _ _ _ _ | exact o0 _ _ _ _ _ _ _ _ | exact A0 _ _ _ _ _ _ _ _ | exact C0 _ _ _ _ _ _ _ | exact n0 _ _ _ _ _ _ _ | apply F9.mono | apply G0.mono | exact LeO.refl _ | exact LeO.none _ | refine LeO.ite ?_ ?_ | refine LeO.bind ?_ (fun _ => ?_)) | exact u0 _ _ _ _ _ _ _ _ | exact o0 _ _ _ _ _ _ _ _ | exact A0 _ _ _ _ _ _ _ _ | exact C0 _ _ _ _ _ _ _ | exact n0 _ _ _ _ _ _ _ | refine LeO.ite ?_ ?_ | refine LeO.bind ?_ (fun _ => ?_)
  intro y0 y1 y2 y3 y4 y5 y6; unfold F1.l1; repeat' first | (with_reducible first | exact u0 _ _ _ _ _ _ _ _ | exact o0 _ _ _ _ _ _ _ _ | exact A0 _ _ _ _ _ _ _ _ | exact C0 _ _ _ _ _ _ _ | exact n0 _ _ _ _ _ _ _ | apply F9.mono | apply G0.mono | exact LeO.refl _ | exact LeO.none _ | refine LeO.ite ?_ ?_ | refine LeO.bind ?_ (fun _ => ?_)) | exact u0 _ _ _ _ _ _ _ _ | exact o0 _ _ _ _ _ _ _ _ | exact A0 _ _ _ _ _ _ _ _ | exact C0 _ _ _ _ _ _ _ | exact n0 _ _ _ _ _ _ _ | refine LeO.ite ?_ ?_ | refine LeO.bind ?_ (fun _ => ?_)
theorem F1.mono : ∀ a0 a1 a2 a3 a4 a5 a6 k, LeO (F1.f k a0 a1 a2 a3 a4 a5 a6) (F1.f (k + 1) a0 a1 a2 a3 a4 a5 a6) := by
 intro a0 a1 a2 a3 a4 a5 a6 k; obtain ⟨u0, o0, A0, C0, n0⟩ := F1.mono_l k; unfold F1.f; repeat' first | (with_reducible first | exact u0 _ _ _ _ _ _ _ _ | exact o0 _ _ _ _ _ _ _ _ | exact A0 _ _ _ _ _ _ _ _ | exact C0 _ _ _ _ _ _ _ | exact n0 _ _ _ _ _ _ _ | apply F9.mono | apply G0.mono | exact LeO.refl _ | exact LeO.none _ | refine LeO.ite ?_ ?_ | refine LeO.bind ?_ (fun _ => ?_)) | exact u0 _ _ _ _ _ _ _ _ | exact o0 _ _ _ _ _ _ _ _ | exact A0 _ _ _ _ _ _ _ _ | exact C0 _ _ _ _ _ _ _ | exact n0 _ _ _ _ _ _ _ | refine LeO.ite ?_ ?_ | refine LeO.bind ?_ (fun _ => ?_)
theorem F1.calls (k : Nat) (a0_0 a0_1 : Int) (A0_2 : Option Addr) (c0_2 : Nat) (l0_2 : List (Qaz)) (M0 : Option Addr) (L0 : Nat) (o0 : List ByteArray) (A0 C0 a1 : Int) (r : Bool) (w : World) (hr0_2 : Kd.C Qbm w A0_2 l0_2.length l0_2) (hc0_2 : l0_2.length ≤ c0_2) (Z1 : Kd.C Kd.string w M0 o0.length o0) (C2 : o0.length ≤ L0) (h : F1.f k a0_0 a0_1 l0_2 o0 A0 C0 a1 = some r) :
  Calls Tryz.prog 88 #[.agg #[.int .i64 a0_0, .int .i64 a0_1, .slice A0_2 l0_2.length c0_2, .slice M0 o0.length L0, .int .i64 A0, .int .i64 C0], .int .i64 a1] w fun e w' => e = .returned (.bool r) ∧ Below w.heap.size w w' := by
 have X5 := Tryz.underlying30; have P5 := Tryz.underlying107; have j6 := Tryz.underlying28; have L5 := am_ hr0_2; have m5 := am_ hc0_2; clear hr0_2 hc0_2; have Z0 := am_ Z1; have I5 := am_ C2; clear Z1 C2; have HB := am_ (Below.refl w.heap.size w); have H := h; unfold F1.f at H; clear h; replace H := bi H; obtain ⟨V1, A3, H⟩ := H; try dsimp only at H
 have X4 := am_ H; clear H; go_enter Tryz.func88, Tryz.ntmps88
 go_upto_region 2 with (first | ((with_reducible refine gd_ 2 ?_); (try (refine Qbh (by rfl) ?_; dsimp only)); refine bf_ 2 #[.int .i64 a0_0, .int .i64 a0_1, .slice A0_2 l0_2.length c0_2, .slice M0 o0.length L0, .int .i64 A0, .int .i64 C0] 30 HB ?_; intro I0 hg w5 hb n0 D2 HB; clear hb hg) | (go_at_call 54; (with_reducible refine (Fv.calls a1 V1 _ A3.out).mono ?_); rintro e w' ⟨rfl, ⟨nd, rfl⟩⟩; (try first | exact ⟨rfl, _, World.drewN_drewN _ _ _⟩ | exact ⟨rfl, _, Eq.trans (World.drewN_drewN _ _ _) (congrArg (World.drewN _) (Nat.add_assoc _ _ _))⟩)))
 (try simp only [Act.put, List.setIfInBounds_toArray, List.set_cons_zero, List.set_cons_succ])
 repeat (go_quiet (first | ((with_reducible refine gd_ 2 ?_); (try (refine Qbh (by rfl) ?_; dsimp only)); refine bf_ 2 #[.int .i64 a0_0, .int .i64 a0_1, .slice A0_2 l0_2.length c0_2, .slice M0 o0.length L0, .int .i64 A0, .int .i64 C0] 30 HB ?_; intro I0 hg w5 hb n0 D2 HB; clear hb hg) | (go_at_call 54; (with_reducible refine (Fv.calls a1 V1 _ A3.out).mono ?_); rintro e w' ⟨rfl, ⟨nd, rfl⟩⟩; (try first | exact ⟨rfl, _, World.drewN_drewN _ _ _⟩ | exact ⟨rfl, _, Eq.trans (World.drewN_drewN _ _ _) (congrArg (World.drewN _) (Nat.add_assoc _ _ _))⟩))); go_upto_region 2 with (first | ((with_reducible refine gd_ 2 ?_); (try (refine Qbh (by rfl) ?_; dsimp only)); refine bf_ 2 #[.int .i64 a0_0, .int .i64 a0_1, .slice A0_2 l0_2.length c0_2, .slice M0 o0.length L0, .int .i64 A0, .int .i64 C0] 30 HB ?_; intro I0 hg w5 hb n0 D2 HB; clear hb hg) | (go_at_call 54; (with_reducible refine (Fv.calls a1 V1 _ A3.out).mono ?_); rintro e w' ⟨rfl, ⟨nd, rfl⟩⟩; (try first | exact ⟨rfl, _, World.drewN_drewN _ _ _⟩ | exact ⟨rfl, _, Eq.trans (World.drewN_drewN _ _ _) (congrArg (World.drewN _) (Nat.add_assoc _ _ _))⟩))))
 (try simp only [Act.put, List.setIfInBounds_toArray, List.set_cons_zero, List.set_cons_succ])
 go_cut [41] (fun W5 wc => ∃ (kq : Nat) (D1 : Bool), W5 = .bool D1 ∧ Asc (F1.j0 kq a1 D1 a0_0 a0_1 l0_2 o0 A0 C0 = some r) ∧ Asc (kq ≤ k) ∧ Asc (wc.heap[I0]? = some (.cells #[.int .i64 a0_0, .int .i64 a0_1, (.slice A0_2 l0_2.length c0_2), (.slice M0 o0.length L0), .int .i64 A0, .int .i64 C0] 30 (0, 0))) ∧ Asc (Below w.heap.size w wc))
 case first =>
  have H := X4.out; clear X4
  by_cases c6 : V1 = true
  ·
   subst c6; rw [if_pos rfl] at H
   by_cases c7 : a0_0 < 1
   ·
    rw [if_pos c7] at H; exact absurd H (by simp)
   rw [if_neg c7] at H; have k4 := dF c7; clear c7
   (first | rw [k4] | (simp only [Qay, Qa3]; rw [k4]) | skip)
   by_cases c9 : a0_0 > a1
   ·
    rw [if_pos c9] at H; exact absurd H (by simp)
   rw [if_neg c9] at H; have Y5 : decide (a1 < a0_0) = false := dF c9; clear c9
   by_cases S4 : a0_1 < 1
   ·
    rw [if_pos S4] at H; exact absurd H (by simp)
   rw [if_neg S4] at H; have N5 := dF S4; clear S4
   by_cases R4 : a0_1 > 1048576
   ·
    rw [if_pos R4] at H; exact absurd H (by simp)
   rw [if_neg R4] at H; have K5 : decide (1048576 < a0_1) = false := dF R4; clear R4; have H' := am_ H; clear H; have _ := bx6 n0; go_wp2; repeat (go_quiet (fail); try go_wp2)
   go_meet
   case rel => exact ⟨_, (decide ((l0_2.length : Int) > 4)), fr, H', ⟨by first | omega | exact Nat.le_refl _⟩, ⟨gB n0⟩, ⟨bh HB⟩⟩
  replace c6 := Bool.eq_false_iff.mpr c6; subst c6; have H1 : (none) = some r := by rw [if_neg (show ¬ (false = true) by decide)] at H; exact H
  exact absurd H1 (by simp)
 case rest =>
  clear X4; obtain ⟨kq, D1, rfl, HA, Y1, n0, HB⟩ := hcut
  cases kq with
  | zero => exact absurd HA.out (by simp [F1.j0])
  | succ J5 =>
   have H := HA.out; clear HA; simp only [F1.j0] at H
   by_cases I3 : D1 = true
   ·
    subst I3; have H1 : (none) = some r := by rw [if_pos rfl] at H; exact H
    exact absurd H1 (by simp)
   replace I3 := Bool.eq_false_iff.mpr I3; subst I3; rw [if_neg (show ¬ (false = true) by decide)] at H; have H' := am_ H; clear H; go_wp2; repeat (go_quiet (fail); try go_wp2)
   go_loopg [6] J5 (fun kq v6 w' => ∃ (Q1 : Int), v6 = .int .i64 Q1 ∧ Asc (F1.l0 kq a1 Q1 a0_0 a0_1 l0_2 o0 A0 C0 = some r) ∧ Asc (kq ≤ J5) ∧ Asc (w'.heap[I0]? = some (.cells #[.int .i64 a0_0, .int .i64 a0_1, (.slice A0_2 l0_2.length c0_2), (.slice M0 o0.length L0), .int .i64 A0, .int .i64 C0] 30 (0, 0))) ∧ Asc (Below w.heap.size w w'))
   case atStart => exact ⟨(0), fr, H', ⟨Nat.le_refl _⟩, ⟨gB n0⟩, ⟨bh HB⟩⟩
   case round =>
    clear H'; try clear I3
    obtain ⟨Q1, rfl, HA, X1, n0, HB⟩ := hrel
    cases gk with
    | zero => exact absurd HA.out (by simp [F1.l0])
    | succ k2 =>
     have H := HA.out; clear HA; simp only [F1.l0] at H
     by_cases O4 : Q1 < (l0_2.length : Int)
     ·
      rw [if_pos O4] at H; exact absurd H (by simp)
     rw [if_neg O4] at H; have D4 := dF O4; clear O4; have k3 := am_ H; clear H; obtain ⟨I4, N4, J4, u4, N3, K4, C4, Y3, E4, L4, Q3, V3⟩ := bx6 n0
     go_upto_region 10 with (fail)
     repeat (go_quiet (fail); go_upto_region 10 with (fail))
     go_cut [75] (fun i6 wc => ∃ (kq : Nat) (P0 : Bool), i6 = .bool P0 ∧ Asc (F1.j2 kq a1 P0 a0_0 a0_1 l0_2 o0 A0 C0 = some r) ∧ Asc (kq ≤ k2) ∧ Asc (wc.heap[I0]? = some (.cells #[.int .i64 a0_0, .int .i64 a0_1, (.slice A0_2 l0_2.length c0_2), (.slice M0 o0.length L0), .int .i64 A0, .int .i64 C0] 30 (0, 0))) ∧ Asc (Below w.heap.size w wc))
     case first =>
      have H := k3.out; clear k3
      by_cases Z3 : a0_1 = 1
      ·
       rw [if_pos Z3] at H; obtain ⟨U0, M4⟩ := et Z3; clear Z3
       (first | rw [U0] | (simp only [Qay, Qa3]; rw [U0]) | skip)
       have H' := am_ H; clear H; have _ := bx6 n0; go_wp2; repeat (go_quiet (fail); try go_wp2)
       go_meet
       case rel => exact ⟨_, (decide ((o0.length : Int) > 0)), fr, H', ⟨by have := Y1.out; have := X1.out; first | omega | exact Nat.le_refl _⟩, ⟨gB n0⟩, ⟨bh HB⟩⟩
      rw [if_neg Z3] at H; obtain ⟨U0, M4⟩ := ef Z3
      (first | rw [U0] | (simp only [Qay, Qa3]; rw [U0]) | skip)
      have H' := am_ H; clear H; have _ := bx6 n0; go_wp2; repeat (go_quiet (fail); try go_wp2)
      go_meet
      case rel => exact ⟨_, (false), fr, H', ⟨by have := Y1.out; have := X1.out; first | omega | exact Nat.le_refl _⟩, ⟨gB n0⟩, ⟨bh HB⟩⟩
     case rest =>
      clear k3; try clear D4 I4 N4 J4 u4 N3 K4 C4 Y3 E4 L4 Q3 V3
      obtain ⟨kq, P0, rfl, HA, L1, n0, HB⟩ := hcut
      cases kq with
      | zero => exact absurd HA.out (by simp [F1.j2])
      | succ i5 =>
       have H := HA.out; clear HA; simp only [F1.j2] at H
       by_cases U3 : P0 = true
       ·
        subst U3; have H1 : (none) = some r := by rw [if_pos rfl] at H; exact H
        exact absurd H1 (by simp)
       replace U3 := Bool.eq_false_iff.mpr U3; subst U3; rw [if_neg (show ¬ (false = true) by decide)] at H; have J2 := am_ H; clear H
       go_upto_region 12 with (fail)
       repeat (go_quiet (fail); go_upto_region 12 with (fail))
       go_cut [93] (fun V5 wc => ∃ (kq : Nat) (O0 : Bool), V5 = .bool O0 ∧ Asc (F1.j3 kq O0 a0_0 a0_1 l0_2 o0 A0 C0 = some r) ∧ Asc (kq ≤ i5) ∧ Asc (wc.heap[I0]? = some (.cells #[.int .i64 a0_0, .int .i64 a0_1, (.slice A0_2 l0_2.length c0_2), (.slice M0 o0.length L0), .int .i64 A0, .int .i64 C0] 30 (0, 0))) ∧ Asc (Below w.heap.size w wc))
       case first =>
        have H := J2.out; clear J2
        by_cases m3 : a0_1 > 1
        ·
         rw [if_pos m3] at H; have Q0 : decide (1 < a0_1) = true := dT m3; clear m3
         (first | rw [Q0] | (simp only [Qay, Qa3]; rw [Q0]) | skip)
         replace H := bi H; obtain ⟨U1, W4, H⟩ := H; try dsimp only at H
         by_cases Q4 : (o0.length : Int) < U1
         ·
          rw [if_pos Q4] at H; exact absurd H (by simp)
         rw [if_neg Q4] at H; have R5 := dF Q4; clear Q4; have H' := am_ H; clear H; have _ := bx6 n0
         go_wp2_with (first | (go_at_call 104; (with_reducible refine (H6.calls a1 U1 _ W4.out).mono ?_); rintro e w' ⟨rfl, ⟨nd, rfl⟩⟩; (try first | exact ⟨rfl, _, World.drewN_drewN _ _ _⟩ | exact ⟨rfl, _, Eq.trans (World.drewN_drewN _ _ _) (congrArg (World.drewN _) (Nat.add_assoc _ _ _))⟩)))
         (try simp only [Act.put, List.setIfInBounds_toArray, List.set_cons_zero, List.set_cons_succ])
         repeat (go_quiet (first | (go_at_call 104; (with_reducible refine (H6.calls a1 U1 _ W4.out).mono ?_); rintro e w' ⟨rfl, ⟨nd, rfl⟩⟩; (try first | exact ⟨rfl, _, World.drewN_drewN _ _ _⟩ | exact ⟨rfl, _, Eq.trans (World.drewN_drewN _ _ _) (congrArg (World.drewN _) (Nat.add_assoc _ _ _))⟩))); try go_wp2_with (first | (go_at_call 104; (with_reducible refine (H6.calls a1 U1 _ W4.out).mono ?_); rintro e w' ⟨rfl, ⟨nd, rfl⟩⟩; (try first | exact ⟨rfl, _, World.drewN_drewN _ _ _⟩ | exact ⟨rfl, _, Eq.trans (World.drewN_drewN _ _ _) (congrArg (World.drewN _) (Nat.add_assoc _ _ _))⟩))))
         go_meet
         case rel => exact ⟨_, (decide ((o0.length : Int) > a1)), fr, H', ⟨by have := Y1.out; have := X1.out; have := L1.out; first | omega | exact Nat.le_refl _⟩, ⟨gB n0⟩, ⟨bh HB⟩⟩
        rw [if_neg m3] at H; have Q0 : decide (1 < a0_1) = false := dF m3; clear m3
        (first | rw [Q0] | (simp only [Qay, Qa3]; rw [Q0]) | skip)
        have H' := am_ H; clear H; have _ := bx6 n0; go_wp2; repeat (go_quiet (fail); try go_wp2)
        go_meet
        case rel => exact ⟨_, (false), fr, H', ⟨by have := Y1.out; have := X1.out; have := L1.out; first | omega | exact Nat.le_refl _⟩, ⟨gB n0⟩, ⟨bh HB⟩⟩
       case rest =>
        clear J2; try clear U3
        obtain ⟨kq, O0, rfl, HA, P1, n0, HB⟩ := hcut
        cases kq with
        | zero => exact absurd HA.out (by simp [F1.j3])
        | succ L3 =>
         have H := HA.out; clear HA; simp only [F1.j3] at H
         by_cases J3 : O0 = true
         ·
          subst J3; have H1 : (none) = some r := by rw [if_pos rfl] at H; exact H
          exact absurd H1 (by simp)
         replace J3 := Bool.eq_false_iff.mpr J3; subst J3; rw [if_neg (show ¬ (false = true) by decide)] at H; have H' := am_ H; clear H; go_wp2; repeat (go_quiet (fail); try go_wp2)
         go_loopg [8] L3 (fun kq v8 w' => ∃ (u0 : Int), v8 = .int .i64 u0 ∧ Asc (F1.l1 kq u0 a0_0 a0_1 l0_2 o0 A0 C0 = some r) ∧ Asc (kq ≤ L3) ∧ Asc (w'.heap[I0]? = some (.cells #[.int .i64 a0_0, .int .i64 a0_1, (.slice A0_2 l0_2.length c0_2), (.slice M0 o0.length L0), .int .i64 A0, .int .i64 C0] 30 (0, 0))) ∧ Asc (Below w.heap.size w w'))
         case atStart => exact ⟨(0), fr, H', ⟨Nat.le_refl _⟩, ⟨gB n0⟩, ⟨bh HB⟩⟩
         case round =>
          clear H'; try clear J3
          obtain ⟨u0, rfl, HA, U4, n0, HB⟩ := hrel
          cases gk with
          | zero => exact absurd HA.out (by simp [F1.l1])
          | succ k5 =>
           have H := HA.out; clear HA; simp only [F1.l1] at H
           by_cases s3 : u0 < (o0.length : Int)
           ·
            rw [if_pos s3] at H; have m4 := dT s3; clear s3; revert H; refine gi (fun U5 H => ?_); revert H; refine gi' (fun p5 H => ?_); obtain ⟨s5, A5⟩ := et p5; clear p5
            by_cases u3 : u0 > 0
            ·
             rw [if_pos u3] at H; have s4 : decide (0 < u0) = true := dT u3; clear u3; obtain ⟨N0, N1⟩ : ∃ j_ : Int, (wrap64 (u0 - 1)) = j_ := ⟨_, rfl⟩; replace H : (if 0 ≤ (N0) then (if (N0) < (o0.length : Int) then ((F9.f k5 (Qby ByteArray.empty o0 (N0)) (Qby ByteArray.empty o0 u0)).bind fun Q2 => (if Q2 = true then (F1.l1 k5 (wrap64 (u0 + 1)) a0_0 a0_1 l0_2 o0 A0 C0) else (none))) else (none)) else (none)) = some r := by first | (rw [N1] at H; exact H) | (simp only [N1] at H ⊢; exact H)
             have hji48w : (IntKind.i64.wrap (u0 - 1)) = N0 := (Qay _).trans N1; revert H; refine gi (fun Q5 H => ?_); revert H; refine gi (fun O5 H => ?_); replace H := bi H; obtain ⟨Q2, Z4, H⟩ := H; try dsimp only at H
             by_cases P4 : Q2 = true
             ·
              subst P4; rw [if_pos rfl] at H; have H' := am_ H; clear H; have _ := bx6 n0; have V0 : 0 ≤ (u0 : Int) := dt; have X0 : u0 < (o0.length : Int) := dt; obtain ⟨O1, N2, E0⟩ := Kd.at_string Z0.out u0 V0 X0; cases N2; replace E0 := ce HB E0; replace V0 := eq_true V0; replace X0 := eq_true X0; have Y2 : 0 ≤ ((N0) : Int) := dt; have Z2 : (N0) < (o0.length : Int) := dt; obtain ⟨X3, c5, Y0⟩ := Kd.at_string Z0.out (N0) Y2 Z2; obtain rfl : O1 = X3 := (by injection c5); replace Y0 := ce HB Y0; replace Y2 := eq_true Y2; replace Z2 := eq_true Z2; have L2 : 0 ≤ (u0 : Int) := dt; have V2 : u0 < (o0.length : Int) := dt; obtain ⟨S3, Y4, C1⟩ := Kd.at_string Z0.out u0 L2 V2; obtain rfl : O1 = S3 := (by injection Y4); replace C1 := ce HB C1; replace L2 := eq_true L2; replace V2 := eq_true V2
              go_wp2_with (first | (go_at_call 105; (with_reducible refine (F9.calls k5 (Qby ByteArray.empty o0 (N0)) (Qby ByteArray.empty o0 u0) true _ Z4.out).mono ?_); rintro e w' ⟨rfl, ⟨nd, rfl⟩⟩; (try first | exact ⟨rfl, _, World.drewN_drewN _ _ _⟩ | exact ⟨rfl, _, Eq.trans (World.drewN_drewN _ _ _) (congrArg (World.drewN _) (Nat.add_assoc _ _ _))⟩)))
              (try simp only [Act.put, List.setIfInBounds_toArray, List.set_cons_zero, List.set_cons_succ])
              repeat (go_quiet (first | (go_at_call 105; (with_reducible refine (F9.calls k5 (Qby ByteArray.empty o0 (N0)) (Qby ByteArray.empty o0 u0) true _ Z4.out).mono ?_); rintro e w' ⟨rfl, ⟨nd, rfl⟩⟩; (try first | exact ⟨rfl, _, World.drewN_drewN _ _ _⟩ | exact ⟨rfl, _, Eq.trans (World.drewN_drewN _ _ _) (congrArg (World.drewN _) (Nat.add_assoc _ _ _))⟩))); try go_wp2_with (first | (go_at_call 105; (with_reducible refine (F9.calls k5 (Qby ByteArray.empty o0 (N0)) (Qby ByteArray.empty o0 u0) true _ Z4.out).mono ?_); rintro e w' ⟨rfl, ⟨nd, rfl⟩⟩; (try first | exact ⟨rfl, _, World.drewN_drewN _ _ _⟩ | exact ⟨rfl, _, Eq.trans (World.drewN_drewN _ _ _) (congrArg (World.drewN _) (Nat.add_assoc _ _ _))⟩))))
              go_roundg k5
              case measure => have := Y1.out; have := X1.out; have := L1.out; have := P1.out; have := U4.out; omega
              case rel => exact ⟨(wrap64 (u0 + 1)), fr, H', ⟨by have := Y1.out; have := X1.out; have := L1.out; have := P1.out; have := U4.out; omega⟩, ⟨gB n0⟩, ⟨bh HB⟩⟩
             replace P4 := Bool.eq_false_iff.mpr P4; subst P4; have H1 : (none) = some r := by rw [if_neg (show ¬ (false = true) by decide)] at H; exact H
             exact absurd H1 (by simp)
            rw [if_neg u3] at H; have s4 : decide (0 < u0) = false := dF u3; clear u3; have H' := am_ H; clear H; have _ := bx6 n0; have V0 : 0 ≤ (u0 : Int) := dt; have X0 : u0 < (o0.length : Int) := dt; obtain ⟨O1, N2, E0⟩ := Kd.at_string Z0.out u0 V0 X0; cases N2; replace E0 := ce HB E0; replace V0 := eq_true V0; replace X0 := eq_true X0; go_wp2; repeat (go_quiet (fail); try go_wp2)
            go_roundg k5
            case measure => have := Y1.out; have := X1.out; have := L1.out; have := P1.out; have := U4.out; omega
            case rel => exact ⟨(wrap64 (u0 + 1)), fr, H', ⟨by have := Y1.out; have := X1.out; have := L1.out; have := P1.out; have := U4.out; omega⟩, ⟨gB n0⟩, ⟨bh HB⟩⟩
           rw [if_neg s3] at H; have m4 := dF s3; clear s3; replace H := bi H; obtain ⟨l5, D3, H⟩ := H; try dsimp only at H
           replace H := bi H; obtain ⟨Z5, C3, H⟩ := H; try dsimp only at H
           by_cases V4 : l5 = true
           ·
            subst V4; rw [if_pos rfl] at H; replace H := ib H; obtain ⟨rfl, H⟩ | ⟨rfl, H⟩ := H
            ·
             obtain rfl := Option.some.inj H; have _ := bx6 n0
             go_wp2_with (first | (go_at_call 77; (with_reducible refine (F4.calls A0 C0 true _ D3.out).mono ?_); rintro e S5 ⟨rfl, hb⟩; replace n0 := tBb n0 hb; replace HB := tHb HB hb; (try clear hb); have _ := bx6 n0) | (go_at_call 43; (with_reducible refine (Gl.calls a0_1 true _ C3.out).mono ?_); rintro e w' ⟨rfl, ⟨nd, rfl⟩⟩; (try first | exact ⟨rfl, _, World.drewN_drewN _ _ _⟩ | exact ⟨rfl, _, Eq.trans (World.drewN_drewN _ _ _) (congrArg (World.drewN _) (Nat.add_assoc _ _ _))⟩)))
             (try simp only [Act.put, List.setIfInBounds_toArray, List.set_cons_zero, List.set_cons_succ])
             repeat (go_quiet (first | (go_at_call 77; (with_reducible refine (F4.calls A0 C0 true _ D3.out).mono ?_); rintro e S5 ⟨rfl, hb⟩; replace n0 := tBb n0 hb; replace HB := tHb HB hb; (try clear hb); have _ := bx6 n0) | (go_at_call 43; (with_reducible refine (Gl.calls a0_1 true _ C3.out).mono ?_); rintro e w' ⟨rfl, ⟨nd, rfl⟩⟩; (try first | exact ⟨rfl, _, World.drewN_drewN _ _ _⟩ | exact ⟨rfl, _, Eq.trans (World.drewN_drewN _ _ _) (congrArg (World.drewN _) (Nat.add_assoc _ _ _))⟩))); try go_wp2_with (first | (go_at_call 77; (with_reducible refine (F4.calls A0 C0 true _ D3.out).mono ?_); rintro e S5 ⟨rfl, hb⟩; replace n0 := tBb n0 hb; replace HB := tHb HB hb; (try clear hb); have _ := bx6 n0) | (go_at_call 43; (with_reducible refine (Gl.calls a0_1 true _ C3.out).mono ?_); rintro e w' ⟨rfl, ⟨nd, rfl⟩⟩; (try first | exact ⟨rfl, _, World.drewN_drewN _ _ _⟩ | exact ⟨rfl, _, Eq.trans (World.drewN_drewN _ _ _) (congrArg (World.drewN _) (Nat.add_assoc _ _ _))⟩))))
             go_ret; exact ⟨fe, bh HB⟩
            revert H; refine gi' (fun D5 H => ?_); obtain ⟨M5, E5⟩ := et D5; clear D5; obtain rfl := Option.some.inj H; have _ := bx6 n0
            go_wp2_with (first | (go_at_call 77; (with_reducible refine (F4.calls A0 C0 true _ D3.out).mono ?_); rintro e C5 ⟨rfl, hb⟩; replace n0 := tBb n0 hb; replace HB := tHb HB hb; (try clear hb); have _ := bx6 n0) | (go_at_call 43; (with_reducible refine (Gl.calls a0_1 false _ C3.out).mono ?_); rintro e w' ⟨rfl, ⟨nd, rfl⟩⟩; (try first | exact ⟨rfl, _, World.drewN_drewN _ _ _⟩ | exact ⟨rfl, _, Eq.trans (World.drewN_drewN _ _ _) (congrArg (World.drewN _) (Nat.add_assoc _ _ _))⟩)))
            (try simp only [Act.put, List.setIfInBounds_toArray, List.set_cons_zero, List.set_cons_succ])
            repeat (go_quiet (first | (go_at_call 77; (with_reducible refine (F4.calls A0 C0 true _ D3.out).mono ?_); rintro e C5 ⟨rfl, hb⟩; replace n0 := tBb n0 hb; replace HB := tHb HB hb; (try clear hb); have _ := bx6 n0) | (go_at_call 43; (with_reducible refine (Gl.calls a0_1 false _ C3.out).mono ?_); rintro e w' ⟨rfl, ⟨nd, rfl⟩⟩; (try first | exact ⟨rfl, _, World.drewN_drewN _ _ _⟩ | exact ⟨rfl, _, Eq.trans (World.drewN_drewN _ _ _) (congrArg (World.drewN _) (Nat.add_assoc _ _ _))⟩))); try go_wp2_with (first | (go_at_call 77; (with_reducible refine (F4.calls A0 C0 true _ D3.out).mono ?_); rintro e C5 ⟨rfl, hb⟩; replace n0 := tBb n0 hb; replace HB := tHb HB hb; (try clear hb); have _ := bx6 n0) | (go_at_call 43; (with_reducible refine (Gl.calls a0_1 false _ C3.out).mono ?_); rintro e w' ⟨rfl, ⟨nd, rfl⟩⟩; (try first | exact ⟨rfl, _, World.drewN_drewN _ _ _⟩ | exact ⟨rfl, _, Eq.trans (World.drewN_drewN _ _ _) (congrArg (World.drewN _) (Nat.add_assoc _ _ _))⟩))))
            go_ret; exact ⟨fe, bh HB⟩
           replace V4 := Bool.eq_false_iff.mpr V4; subst V4; have H1 : (none) = some r := by rw [if_neg (show ¬ (false = true) by decide)] at H; exact H
           exact absurd H1 (by simp)
def He.f (a0 : ByteArray) : Option ByteArray := if a0.size ≤ 140737488351232 then some (Sa.textB a0) else none
theorem He.calls (a0 r : ByteArray) (w : World) (h : He.f a0 = some r) :
  Calls Tryz.prog 85 #[.string a0] w fun e w' => e = .returned (.string r) ∧ Below w.heap.size w w' := by
 unfold He.f at h
 by_cases hs : a0.size ≤ 140737488351232
 ·
  rw [if_pos hs] at h; obtain rfl := Option.some.inj h; exact Sa.rtext_c a0 hs w
 rw [if_neg hs] at h; cases h

def H5.f (l0 : List ByteArray) : Option ByteArray := if Sa.sizes l0 + 9 ≤ 140737488351232 then some (Sa.rowB l0) else none
theorem H5.calls (A0 : Option Addr) (c0 : Nat) (l0 : List ByteArray) (r : ByteArray) (w : World) (n0 : Kd.C Kd.string w A0 l0.length l0) (o0 : l0.length ≤ c0) (h : H5.f l0 = some r) :
  Calls Tryz.prog 90 #[.slice A0 l0.length c0] w fun e w' => e = .returned (.string r) ∧ Below w.heap.size w w' := by
 unfold H5.f at h
 by_cases hs : Sa.sizes l0 + 9 ≤ 140737488351232
 ·
  rw [if_pos hs] at h; obtain rfl := Option.some.inj h; exact Sa.rrow_c A0 c0 l0 w n0 hs
 rw [if_neg hs] at h; cases h
def Fw.l0 : Nat → List ByteArray → Int → Int → Int → List (Qaz) → List ByteArray → Int → Int → Option (ByteArray × Int)
 | 0, _, _, _, _, _, _, _, _ => none
 | k + 1, x7, x8, M0, L0, E0, I0, C0, N0 => if x8 < (E0.length : Int) then (none) else ((Gd.f (IntKind.u64.wrap (M0))).bind fun o0 => ((Gd.f (IntKind.u64.wrap (L0))).bind fun n0 => (if o0.size + n0.size ≤ 9223372036854775807 then ((H5.f x7).bind fun u0 => (if (o0 ++ n0).size + u0.size ≤ 9223372036854775807 then ((H5.f I0).bind fun A0 => (if ((o0 ++ n0) ++ u0).size + A0.size ≤ 9223372036854775807 then ((Gd.f (IntKind.u64.wrap (C0))).bind fun O0 => (if (((o0 ++ n0) ++ u0) ++ A0).size + O0.size ≤ 9223372036854775807 then ((Gd.f (IntKind.u64.wrap (N0))).bind fun P0 => (if ((((o0 ++ n0) ++ u0) ++ A0) ++ O0).size + P0.size ≤ 9223372036854775807 then (some (((((o0 ++ n0) ++ u0) ++ A0) ++ O0) ++ P0, 0)) else (none))) else (none))) else (none))) else (none))) else (none))))
def Fw.f (k : Nat) (a0_0 a0_1 : Int) (l0_2 : List (Qaz)) (n0 : List ByteArray) (u0 o0 a1 : Int) : Option (ByteArray × Int) := (F1.f k a0_0 a0_1 l0_2 n0 u0 o0 a1).bind fun A0 => (if A0 = true then (Fw.l0 k ([] : List ByteArray) 0 a0_0 a0_1 l0_2 n0 u0 o0) else (none))
theorem Fw.mono_l : ∀ k, (∀ y0 y1 y2 y3 y4 y5 y6 y7, LeO (Fw.l0 k y0 y1 y2 y3 y4 y5 y6 y7) (Fw.l0 (k + 1) y0 y1 y2 y3 y4 y5 y6 y7))
 | 0 => fun _ _ _ _ _ _ _ _ r h => by simp [Fw.l0] at h
 | k + 1 => by
  have n0 := Fw.mono_l k
  ·
   intro y0 y1 y2 y3 y4 y5 y6 y7; unfold Fw.l0; repeat' first | (with_reducible first | exact n0 _ _ _ _ _ _ _ _ | apply Hg.mono | apply F1.mono | exact LeO.refl _ | exact LeO.none _ | refine LeO.ite ?_ ?_ | refine LeO.bind ?_ (fun _ => ?_)) | exact n0 _ _ _ _ _ _ _ _ | refine LeO.ite ?_ ?_ | refine LeO.bind ?_ (fun _ => ?_)
theorem Fw.mono : ∀ a0 a1 a2 a3 a4 a5 a6 k, LeO (Fw.f k a0 a1 a2 a3 a4 a5 a6) (Fw.f (k + 1) a0 a1 a2 a3 a4 a5 a6) := by
 intro a0 a1 a2 a3 a4 a5 a6 k; have n0 := Fw.mono_l k; unfold Fw.f; repeat' first | (with_reducible first | exact n0 _ _ _ _ _ _ _ _ | apply Hg.mono | apply F1.mono | exact LeO.refl _ | exact LeO.none _ | refine LeO.ite ?_ ?_ | refine LeO.bind ?_ (fun _ => ?_)) | exact n0 _ _ _ _ _ _ _ _ | refine LeO.ite ?_ ?_ | refine LeO.bind ?_ (fun _ => ?_)
def Fw.T10 : Bool × List (List Nat × List Nat) := (true, [([], []), ([0], [0]), ([1], [1]), ([2], [2]), ([], []), ([4], [4]), ([5], [5]), ([6, 3], [6]), ([3, 7], [3, 7]), ([], []), ([9, 7], [9]), ([8, 10], [8, 10]), ([], []), ([12], [12]), ([13, 10], [13]), ([11, 14], [11, 14]), ([15, 14, 0, 1, 2, 3, 4, 5, 6, 7, 8, 9, 10, 11, 12, 13, 14, 15], [15])])
def Fw.B10 : List Nat := [0, 1, 3, 7, 0, 16, 48, 127, 255, 0, 767, 2047, 0, 4096, 14079, 32767, 65535]
theorem Fw.tab10 : Qcp .any (opsOf Tryz.f66 10) = Fw.T10 := by kernel_rfl
theorem Fw.bits10 : Qbi Fw.T10.2 Fw.B10 = true := by kernel_rfl
def Fw.T11 : Bool × List (List Nat × List Nat) := (true, [([], []), ([], []), ([1], [1]), ([2], [2]), ([3], [3]), ([4], [4]), ([0, 5], [0, 5]), ([], []), ([7], [7]), ([8], [8]), ([9], [9]), ([10, 5], [10]), ([6, 11], [6, 11]), ([12, 11, 0, 1, 2, 3, 4, 5, 6, 7, 8, 9, 10, 11, 12], [12]), ([13, 0, 1, 2, 3, 4, 5, 6, 7, 8, 9, 10, 11, 12, 13], [])])
def Fw.B11 : List Nat := [0, 0, 2, 6, 14, 30, 63, 0, 128, 384, 896, 1982, 4095, 8191, 16383]
theorem Fw.tab11 : Qcp .any (opsOf Tryz.f66 11) = Fw.T11 := by kernel_rfl
theorem Fw.bits11 : Qbi Fw.T11.2 Fw.B11 = true := by kernel_rfl
theorem Fw.calls (k : Nat) (a0_0 a0_1 : Int) (A0_2 : Option Addr) (c0_2 : Nat) (l0_2 : List (Qaz)) (P0 : Option Addr) (O0 : Nat) (o0 : List ByteArray) (E0 I0 a1 : Int) (r1 : ByteArray) (r2 : Int) (w : World) (hr0_2 : Kd.C Qbm w A0_2 l0_2.length l0_2) (hc0_2 : l0_2.length ≤ c0_2) (Z0 : Kd.C Kd.string w P0 o0.length o0) (C1 : o0.length ≤ O0) (h : Fw.f k a0_0 a0_1 l0_2 o0 E0 I0 a1 = some (r1, r2)) :
  Calls Tryz.prog 66 #[.agg #[.int .i64 a0_0, .int .i64 a0_1, .slice A0_2 l0_2.length c0_2, .slice P0 o0.length O0, .int .i64 E0, .int .i64 I0], .int .i64 a1] w fun e w' => e = .returned (.tuple #[.string r1, .int .i64 r2]) ∧ Below w.heap.size w w' := by
 have P4 := Tryz.underlying30; have C4 := Tryz.underlying107; have P1 := am_ hr0_2; have L1 := am_ hc0_2; clear hr0_2 hc0_2; have Y0 := am_ Z0; have X0 := am_ C1; clear Z0 C1; have HB := am_ (Below.refl w.heap.size w); have H := h; unfold Fw.f at H; clear h; replace H := bi H; obtain ⟨s3, A3, H⟩ := H; try dsimp only at H
 by_cases c4 : s3 = true
 ·
  subst c4; rw [if_pos rfl] at H; have H' := am_ H; clear H; go_enter Tryz.func66, Tryz.ntmps66
  go_wp2_with (first | (refine bf_ 2 #[.int .i64 a0_0, .int .i64 a0_1, .slice A0_2 l0_2.length c0_2, .slice P0 o0.length O0, .int .i64 E0, .int .i64 I0] 30 HB ?_; intro U1 hg w5 hb n0 Z3 HB; clear hb hg; obtain ⟨D3, J3, k3, u3, J2, m3, V2, Q2, C3, Z2, D2, I3⟩ := bx6 n0) | (refine gl_ (some 14) Tryz.func88 #[.agg #[.int .i64 a0_0, .int .i64 a0_1, .slice A0_2 l0_2.length c0_2, .slice P0 o0.length O0, .int .i64 E0, .int .i64 I0], .int .i64 a1] ?_; (with_reducible refine (F1.calls k a0_0 a0_1 _ _ l0_2 _ _ o0 E0 I0 a1 true _ ?L0 ?M0 ?O1 ?Q1 A3.out).mono ?_); (case L0 => exact gCB P1 HB); (case M0 => exact L1.out); (case O1 => exact gCB Y0 HB); (case Q1 => exact X0.out); rintro e w7 ⟨rfl, hb⟩; refine ⟨_, rfl, ?_⟩; replace n0 := tBb n0 hb; replace HB := tHb HB hb; (try clear hb)))
  go_loopg [7, 8] k (fun kq v7 v8 w' => ∃ (Q0 : List ByteArray) (V0 : Int), v8 = .int .i64 V0 ∧ Asc (Fw.l0 kq Q0 V0 a0_0 a0_1 l0_2 o0 E0 I0 = some (r1, r2)) ∧ Asc (kq ≤ k) ∧ Asc (Kd.R Kd.string 9 w' w.heap.size (fun _ => True) v7 Q0) ∧ Asc (w'.heap[U1]? = some (.cells #[.int .i64 a0_0, .int .i64 a0_1, (.slice A0_2 l0_2.length c0_2), (.slice P0 o0.length O0), .int .i64 E0, .int .i64 I0] 30 (0, 0))) ∧ Asc (Below w.heap.size w w'))
  case atStart => exact ⟨(([] : List ByteArray)), (0), fr, H', ⟨Nat.le_refl _⟩, ⟨kn⟩, ⟨gB n0⟩, ⟨bh HB⟩⟩
  case round =>
   clear H'; try clear c4 D3 J3 k3 u3 J2 m3 V2 Q2 C3 Z2 D2 I3
   obtain ⟨Q0, V0, rfl, HA, l5, HO_7, n0, HB⟩ := hrel
   cases gk with
   | zero => exact absurd HA.out (by simp [Fw.l0])
   | succ k1 =>
    have H := HA.out; clear HA; simp only [Fw.l0] at H
    by_cases c8 : V0 < (l0_2.length : Int)
    ·
     rw [if_pos c8] at H; exact absurd H (by simp)
    rw [if_neg c8] at H; have W4 := dF c8; clear c8; replace H := bi H; obtain ⟨u0, R4, H⟩ := H; try dsimp only at H
    replace H := bi H; obtain ⟨A0, X4, H⟩ := H; try dsimp only at H
    revert H; refine gi' (fun N2 H => ?_); have I4 := eq_true N2; have U3 : decide (u0.size + A0.size ≤ 9223372036854775807) = true := dT N2; try have E4 : (9223372036854775807 < u0.size + A0.size) = False := eq_false (Nat.not_lt.2 N2)
    replace H := bi H; obtain ⟨C0, N4, H⟩ := H; try dsimp only at H
    revert H; refine gi' (fun Y1 H => ?_); have J4 := eq_true Y1; have u4 : decide ((u0 ++ A0).size + C0.size ≤ 9223372036854775807) = true := dT Y1; have c19u := Y1
    (try simp only [ByteArray.size_append] at c19u)
    (try simp only [show ∀ x : UInt8, (⟨#[x]⟩ : ByteArray).size = 1 from fun _ => rfl] at c19u)
    have c19v := eq_false (Nat.not_lt.2 c19u); replace c19u := eq_true c19u; try have N3 : (9223372036854775807 < (u0 ++ A0).size + C0.size) = False := eq_false (Nat.not_lt.2 Y1)
    replace H := bi H; obtain ⟨N0, M4, H⟩ := H; try dsimp only at H
    revert H; refine gi' (fun Z1 H => ?_); have S3 := eq_true Z1; have m4 : decide (((u0 ++ A0) ++ C0).size + N0.size ≤ 9223372036854775807) = true := dT Z1; have c21u := Z1
    (try simp only [ByteArray.size_append] at c21u)
    (try simp only [show ∀ x : UInt8, (⟨#[x]⟩ : ByteArray).size = 1 from fun _ => rfl] at c21u)
    have c21v := eq_false (Nat.not_lt.2 c21u); replace c21u := eq_true c21u; try have L3 : (9223372036854775807 < ((u0 ++ A0) ++ C0).size + N0.size) = False := eq_false (Nat.not_lt.2 Z1)
    replace H := bi H; obtain ⟨U0, O4, H⟩ := H; try dsimp only at H
    revert H; refine gi' (fun C2 H => ?_); have D4 := eq_true C2; have K4 : decide ((((u0 ++ A0) ++ C0) ++ N0).size + U0.size ≤ 9223372036854775807) = true := dT C2; have c23u := C2
    (try simp only [ByteArray.size_append] at c23u)
    (try simp only [show ∀ x : UInt8, (⟨#[x]⟩ : ByteArray).size = 1 from fun _ => rfl] at c23u)
    have c23v := eq_false (Nat.not_lt.2 c23u); replace c23u := eq_true c23u; try have V3 : (9223372036854775807 < (((u0 ++ A0) ++ C0) ++ N0).size + U0.size) = False := eq_false (Nat.not_lt.2 C2)
    replace H := bi H; obtain ⟨D1, U4, H⟩ := H; try dsimp only at H
    revert H; refine gi' (fun X1 H => ?_); have s4 := eq_true X1; have k4 : decide (((((u0 ++ A0) ++ C0) ++ N0) ++ U0).size + D1.size ≤ 9223372036854775807) = true := dT X1; have c25u := X1
    (try simp only [ByteArray.size_append] at c25u)
    (try simp only [show ∀ x : UInt8, (⟨#[x]⟩ : ByteArray).size = 1 from fun _ => rfl] at c25u)
    have c25v := eq_false (Nat.not_lt.2 c25u); replace c25u := eq_true c25u; try have X3 : (9223372036854775807 < ((((u0 ++ A0) ++ C0) ++ N0) ++ U0).size + D1.size) = False := eq_false (Nat.not_lt.2 X1)
    replace H := oi2 H; obtain ⟨rfl, rfl⟩ := H; have _ := bx6 n0; try go_wp2
    replace HO_7 := am_ (Kd.R_drew HO_7.out); replace n0 := am_ (Qag n0.out); replace HB := am_ (Qaj HB.out); refine st_ 17 [] (k6_ n0 ct) (fun hHeld => ?_); refine Qav Fw.tab10 Fw.bits10 (fun HT_ HW_ => ?_); generalize wr.drew = m5 at HO_7 n0 HB hHeld ⊢; refine pu_ 0 (some 37) 1 HT_ (h := ?_); refine pu_ 4 (some 41) 17 HT_ (h := ?_); refine pu_ 9 (some 46) 529 HT_ (h := ?_); refine pu_ 12 (some 49) 4625 HT_ (h := ?_); refine tk_ 1 (some 38) 4627 HT_ HW_ hHeld (h := ?_); refine pu_ 2 (some 39) 4631 HT_ (h := ?_); refine tk_ 5 (some 42) 4663 HT_ HW_ hHeld (h := ?_); refine pu_ 6 (some 43) 4727 HT_ (h := ?_); refine tk_ 13 (some 50) 12919 HT_ HW_ hHeld (h := ?_); refine on_ 3 (some 40) 12927 HT_ (fun K hK => ?_); refine Qdo Tryz.func86 #[.int .u64 (IntKind.u64.wrap (a0_0))] ?_
    with_reducible refine (Gd.calls (IntKind.u64.wrap (a0_0)) u0 _ R4.out).mono ?_
    rintro e k5 ⟨rfl, hb⟩; refine ⟨_, rfl, ?_⟩; replace HO_7 := tRb HO_7 hb; replace n0 := tBb n0 hb; replace HB := tHb HB hb
    (try clear hb)
    (try clear V1)
    (try clear hk)
    (try clear hi)
    refine hK.out _ _ (m6_ n0 ct) (fun hHeld => ?_); clear hK K; refine Qbb (a' := ?_) ?_ ?_; rotate_left
    ·
     show Act.put _ (some 40) _ = _; exact pt_
    refine on_ 7 (some 44) 13055 HT_ (fun K hK => ?_); refine Qdo Tryz.func86 #[.int .u64 (IntKind.u64.wrap (a0_1))] ?_
    with_reducible refine (Gd.calls (IntKind.u64.wrap (a0_1)) A0 _ X4.out).mono ?_
    rintro e i5 ⟨rfl, hb⟩; refine ⟨_, rfl, ?_⟩; replace HO_7 := tRb HO_7 hb; replace n0 := tBb n0 hb; replace HB := tHb HB hb
    (try clear hb)
    (try clear V1)
    (try clear hk)
    (try clear hi)
    obtain ⟨Y2, L2, N1⟩ := Kd.R_slice HO_7.out
    (first | subst N1 | (injection N1 with Y3 S4 Q3; have Q4 := Y3.symm; have L4 := Q3.symm; clear Y3 S4 Q3; subst Q4; subst L4))
    refine hK.out _ _ (m6_ n0 ct) (fun hHeld => ?_); clear hK K; refine Qbb (a' := ?_) ?_ ?_; rotate_left
    ·
     show Act.put _ (some 44) _ = _; exact pt_
    refine pu_ 8 (some 45) 13311 HT_ (h := ?_); refine on_ 10 (some 47) 14335 HT_ (fun K hK => ?_); refine Qdo Tryz.func90 #[.slice Y2 Q0.length L2] ?_
    with_reducible refine (H5.calls _ _ Q0 C0 _ ?L0 ?M0 N4.out).mono ?_
    (case L0 => repeat (first | exact (Kd.R_reads' HO_7.out).2.2 | (with_reducible refine Kd.C_alloc ?_ _) | (with_reducible refine Kd.C_drewN ?_ _) | (with_reducible refine Kd.C_drew ?_)))
    (case M0 => exact (Kd.R_reads' HO_7.out).2.1)
    rintro e Y4 ⟨rfl, hb⟩; refine ⟨_, rfl, ?_⟩; replace HO_7 := tRb HO_7 hb; replace n0 := tBb n0 hb; replace HB := tHb HB hb
    (try clear hb)
    (try clear V1)
    (try clear hk)
    (try clear hi)
    refine hK.out _ _ (m6_ n0 ct) (fun hHeld => ?_); clear hK K; refine Qbb (a' := ?_) ?_ ?_; rotate_left
    ·
     show Act.put _ (some 47) _ = _; exact pt_
    refine pu_ 11 (some 48) 16383 HT_ (h := ?_); refine on_ 14 (some 51) 32767 HT_ (fun K hK => ?_); refine Qdo Tryz.func90 #[.slice P0 o0.length O0] ?_
    with_reducible refine (H5.calls _ _ o0 N0 _ ?L0 ?M0 M4.out).mono ?_
    (case L0 => exact gCB Y0 HB)
    (case M0 => exact X0.out)
    rintro e V4 ⟨rfl, hb⟩; refine ⟨_, rfl, ?_⟩; replace HO_7 := tRb HO_7 hb; replace n0 := tBb n0 hb; replace HB := tHb HB hb
    (try clear hb)
    (try clear V1)
    (try clear hk)
    (try clear hi)
    refine hK.out _ _ (m6_ n0 ct) (fun hHeld => ?_); clear hK K; refine Qbb (a' := ?_) ?_ ?_; rotate_left
    ·
     show Act.put _ (some 51) _ = _; exact pt_
    refine pu_ 15 (some 52) 65535 HT_ (h := ?_); refine pu_ 16 (some 11) 131071 HT_ (h := ?_); refine Qbt (Qbc HT_.out (by kernel_rfl)) ?_; try go_wp2
    replace HO_7 := am_ (Kd.R_drew HO_7.out); replace n0 := am_ (Qag n0.out); replace HB := am_ (Qaj HB.out); refine st_ 15 [] (k6_ n0 ct) (fun hHeld => ?_); refine Qav Fw.tab11 Fw.bits11 (fun HT_ HW_ => ?_); generalize V4.drew = p5 at HO_7 n0 HB hHeld ⊢; refine pu_ 0 (some 53) 1 HT_ (h := ?_); refine pu_ 1 (some 54) 3 HT_ (h := ?_); refine pu_ 2 (some 55) 7 HT_ (h := ?_); refine pu_ 7 (some 60) 135 HT_ (h := ?_); refine pu_ 8 (some 61) 391 HT_ (h := ?_); refine tk_ 3 (some 56) 399 HT_ HW_ hHeld (h := ?_); refine pu_ 4 (some 57) 415 HT_ (h := ?_); refine tk_ 9 (some 62) 927 HT_ HW_ hHeld (h := ?_); refine pu_ 10 (some 63) 1951 HT_ (h := ?_); refine on_ 5 (some 58) 1983 HT_ (fun K hK => ?_); refine Qdo Tryz.func86 #[.int .u64 (IntKind.u64.wrap (E0))] ?_
    with_reducible refine (Gd.calls (IntKind.u64.wrap (E0)) U0 _ O4.out).mono ?_
    rintro e Z4 ⟨rfl, hb⟩; refine ⟨_, rfl, ?_⟩; replace HO_7 := tRb HO_7 hb; replace n0 := tBb n0 hb; replace HB := tHb HB hb
    (try clear hb)
    (try clear V1)
    (try clear hk)
    (try clear hi)
    refine hK.out _ _ (m6_ n0 ct) (fun hHeld => ?_); clear hK K; refine Qbb (a' := ?_) ?_ ?_; rotate_left
    ·
     show Act.put _ (some 58) _ = _; exact pt_
    refine pu_ 6 (some 59) 2047 HT_ (h := ?_); refine on_ 11 (some 64) 4095 HT_ (fun K hK => ?_); refine Qdo Tryz.func86 #[.int .u64 (IntKind.u64.wrap (I0))] ?_
    with_reducible refine (Gd.calls (IntKind.u64.wrap (I0)) D1 _ U4.out).mono ?_
    rintro e c5 ⟨rfl, hb⟩; refine ⟨_, rfl, ?_⟩; replace HO_7 := tRb HO_7 hb; replace n0 := tBb n0 hb; replace HB := tHb HB hb
    (try clear hb)
    (try clear V1)
    (try clear hk)
    (try clear hi)
    refine hK.out _ _ (m6_ n0 ct) (fun hHeld => ?_); clear hK K; refine Qbb (a' := ?_) ?_ ?_; rotate_left
    ·
     show Act.put _ (some 64) _ = _; exact pt_
    refine pu_ 12 (some 65) 8191 HT_ (h := ?_); refine pu_ 13 (some 4) 16383 HT_ (h := ?_); refine pu_ 14 (some 5) 32767 HT_ (h := ?_); refine Qbt (Qbc HT_.out (by kernel_rfl)) ?_; try go_wp2
    go_ret2; exact ⟨fe, bh HB⟩
 replace c4 := Bool.eq_false_iff.mpr c4; subst c4; have H1 : (none) = some (r1, r2) := by rw [if_neg (show ¬ (false = true) by decide)] at H; exact H
 exact absurd H1 (by simp)/-! ### H0: function 67 -/
def H0.f (a0 : ByteArray) : Option ByteArray := if a0.size ≤ 140737488351232 then some (Sm.sumB a0) else none
theorem H0.calls (a0 r : ByteArray) (w : World) (h : H0.f a0 = some r) :
  Calls Tryz.prog 67 #[.string a0] w fun e w' => e = .returned (.string r) ∧ Below w.heap.size w w' := by
 unfold H0.f at h
 by_cases hs : a0.size ≤ 140737488351232
 ·
  rw [if_pos hs] at h; obtain rfl := Option.some.inj h; exact Sa.rsum_c a0 hs w
 rw [if_neg hs] at h; cases h

def Gj.f (k : Nat) (a0_0 a0_1 : Int) (l0_2 : List (Qaz)) (A0 : List ByteArray) (o0 C0 a1 : Int) : Option (ByteArray × Int) := (Fw.f k a0_0 a0_1 l0_2 A0 o0 C0 a1).bind fun n0 => (if n0.2 = 0 then (if 1 + n0.1.size ≤ 9223372036854775807 then ((H0.f ((⟨#[118]⟩ : ByteArray) ++ n0.1)).bind fun u0 => (some (u0, 0))) else (none)) else (none))
theorem Gj.mono : ∀ a0 a1 a2 a3 a4 a5 a6 k, LeO (Gj.f k a0 a1 a2 a3 a4 a5 a6) (Gj.f (k + 1) a0 a1 a2 a3 a4 a5 a6) := by
 intro a0 a1 a2 a3 a4 a5 a6 k; unfold Gj.f; repeat' first | (with_reducible first | apply Fw.mono | exact LeO.refl _ | exact LeO.none _ | refine LeO.ite ?_ ?_ | refine LeO.bind ?_ (fun _ => ?_)) | refine LeO.ite ?_ ?_ | refine LeO.bind ?_ (fun _ => ?_)
theorem Gj.calls (k : Nat) (a0_0 a0_1 : Int) (A0_2 : Option Addr) (c0_2 : Nat) (l0_2 : List (Qaz)) (I0 : Option Addr) (E0 : Nat) (o0 : List ByteArray) (C0 A0 a1 : Int) (r1 : ByteArray) (r2 : Int) (w : World) (hr0_2 : Kd.C Qbm w A0_2 l0_2.length l0_2) (hc0_2 : l0_2.length ≤ c0_2) (L0 : Kd.C Kd.string w I0 o0.length o0) (M0 : o0.length ≤ E0) (h : Gj.f k a0_0 a0_1 l0_2 o0 C0 A0 a1 = some (r1, r2)) :
  Calls Tryz.prog 45 #[.agg #[.int .i64 a0_0, .int .i64 a0_1, .slice A0_2 l0_2.length c0_2, .slice I0 o0.length E0, .int .i64 C0, .int .i64 A0], .int .i64 a1] w fun e w' => e = .returned (.tuple #[.string r1, .int .i64 r2]) ∧ Below w.heap.size w w' := by
 have V1 := Tryz.underlying30; have V0 := am_ hr0_2; have N0 := am_ hc0_2; clear hr0_2 hc0_2; have Q0 := am_ L0; have O0 := am_ M0; clear L0 M0; have HB := am_ (Below.refl w.heap.size w); have H := h; unfold Gj.f at H; clear h; replace H := bi H; obtain ⟨⟨u0, Z0⟩, A3, H⟩ := H; try dsimp only at H
 revert H; refine gi' (fun c4 H => ?_); obtain ⟨N1, Q1⟩ := et c4; clear c4; revert H; refine gi' (fun c5 H => ?_); have O1 := eq_true c5; have P1 : decide (1 + u0.size ≤ 9223372036854775807) = true := dT c5; try have U1 : (9223372036854775807 < 1 + u0.size) = False := eq_false (Nat.not_lt.2 c5)
 replace H := bi H; obtain ⟨C1, A6, H⟩ := H; try dsimp only at H
 replace H := oi2 H; obtain ⟨rfl, rfl⟩ := H; go_enter Tryz.func45, Tryz.ntmps45
 go_wp2_with (first | (refine bf_ 2 #[.int .i64 a0_0, .int .i64 a0_1, .slice A0_2 l0_2.length c0_2, .slice I0 o0.length E0, .int .i64 C0, .int .i64 A0] 30 HB ?_; intro D1 hg w7 hb n0 L1 HB; clear hb hg; have _ := bx6 n0) | (refine gl_ (some 11) Tryz.func66 #[.agg #[.int .i64 a0_0, .int .i64 a0_1, .slice A0_2 l0_2.length c0_2, .slice I0 o0.length E0, .int .i64 C0, .int .i64 A0], .int .i64 a1] ?_; (with_reducible refine (Fw.calls k a0_0 a0_1 _ _ l0_2 _ _ o0 C0 A0 a1 u0 Z0 _ ?Y0 ?P0 ?X0 ?U0 A3.out).mono ?_); (case Y0 => exact gCB V0 HB); (case P0 => exact N0.out); (case X0 => exact gCB Q0 HB); (case U0 => exact O0.out); rintro e w9 ⟨rfl, hb⟩; refine ⟨_, rfl, ?_⟩; replace n0 := tBb n0 hb; replace HB := tHb HB hb; (try clear hb)) | (refine gl_ (some 19) Tryz.func67 #[.string ((⟨#[118]⟩ : ByteArray) ++ u0)] ?_; (with_reducible refine (H0.calls ((⟨#[118]⟩ : ByteArray) ++ u0) C1 _ A6.out).mono ?_); rintro e X1 ⟨rfl, hb⟩; refine ⟨_, rfl, ?_⟩; replace n0 := tBb n0 hb; replace HB := tHb HB hb; (try clear hb)))
 go_ret2; exact ⟨fe, bh HB⟩
def F6.l0 : Nat → Int → List (S32) → Int → Int → Int → List (S32) → Option ((List (S32)))
 | 0, _, _, _, _, _, _ => none
 | k + 1, x1, x5, x6, o0, u0, n0 => if x6 < (n0.length : Int) then (if 0 ≤ x6 then (if ((Qab n0 x6).f1.f1) = x1 then (if x5.length < 1466015503701 then (F6.l0 k x1 (x5 ++ [(⟨(Qab n0 x6).f0, (⟨(Qab n0 x6).f1.f0, (Qab n0 x6).f1.f1, (Qab n0 x6).f1.f2, (Qab n0 x6).f1.f3, (⟨(Qab n0 x6).f1.f4.f0, (Qab n0 x6).f1.f4.f1⟩ : S28)⟩ : S30)⟩ : S32)]) (wrap64 (x6 + 1)) o0 u0 n0) else (none)) else (F6.l0 k x1 x5 (wrap64 (x6 + 1)) o0 u0 n0)) else (none)) else (some x5)
def F6.f (k : Nat) (a0_0 a0_1 : Int) (l0_2 : List (S32)) (a1 : Int) : Option ((List (S32))) := F6.l0 k a1 ([] : List (S32)) 0 a0_0 a0_1 l0_2
theorem F6.mono_l : ∀ k, (∀ y0 y1 y2 y3 y4 y5, LeO (F6.l0 k y0 y1 y2 y3 y4 y5) (F6.l0 (k + 1) y0 y1 y2 y3 y4 y5))
 | 0 => fun _ _ _ _ _ _ r h => by simp [F6.l0] at h
 | k + 1 => by
  have n0 := F6.mono_l k
  ·
   intro y0 y1 y2 y3 y4 y5; unfold F6.l0; repeat' first | (with_reducible first | exact n0 _ _ _ _ _ _ | exact LeO.refl _ | exact LeO.none _ | refine LeO.ite ?_ ?_ | refine LeO.bind ?_ (fun _ => ?_)) | exact n0 _ _ _ _ _ _ | refine LeO.ite ?_ ?_ | refine LeO.bind ?_ (fun _ => ?_)
theorem F6.mono : ∀ a0 a1 a2 a3 k, LeO (F6.f k a0 a1 a2 a3) (F6.f (k + 1) a0 a1 a2 a3) := by
 intro a0 a1 a2 a3 k; have n0 := F6.mono_l k; unfold F6.f; repeat' first | (with_reducible first | exact n0 _ _ _ _ _ _ | exact LeO.refl _ | exact LeO.none _ | refine LeO.ite ?_ ?_ | refine LeO.bind ?_ (fun _ => ?_)) | exact n0 _ _ _ _ _ _ | refine LeO.ite ?_ ?_ | refine LeO.bind ?_ (fun _ => ?_)
theorem F6.calls (k : Nat) (a0_0 a0_1 : Int) (o0 : Nat → Prop) (A0_2 : Option Addr) (c0_2 : Nat) (l0_2 : List (S32)) (a1 : Int) (r : List (S32)) (w : World) (M4 : Kd.V k32 32 w w.heap.size (fun k_ => o0 k_) (.slice A0_2 l0_2.length c0_2) l0_2) (h : F6.f k a0_0 a0_1 l0_2 a1 = some r) :
  Calls Tryz.prog 36 #[.agg #[.int .i64 a0_0, .int .i64 a0_1, .slice A0_2 l0_2.length c0_2], .int .i64 a1] w fun e w' => ∃ K5 : Value, e = .returned (K5) ∧ Kd.N k32 32 w' w.heap.size (fun k_ => (o0 k_ ∨ w.heap.size ≤ k_)) K5 r ∧ Below w.heap.size w w' := by
 have Q5 := Tryz.underlying24; have P5 := Tryz.underlying32; have D3 := am_ (show Kd.V k32 32 w w.heap.size (fun k_ => (o0 k_ ∨ w.heap.size ≤ k_)) (.slice A0_2 l0_2.length c0_2) l0_2 from Kd.V_mono M4 (fun k_ hk => .inl hk)); have HB := am_ (Below.refl w.heap.size w); have H := h; unfold F6.f at H; clear h; have H' := am_ H; clear H; go_enter Tryz.func36, Tryz.ntmps36
 go_wp2_with (first | (refine bf_ 2 #[.int .i64 a0_0, .int .i64 a0_1, .slice A0_2 l0_2.length c0_2] 24 HB ?_; intro C0 hg w3 hb N0 M5 HB; replace D3 := tVe D3 hg hb; clear hb hg))
 go_loopg [5, 6] k (fun kq v5 v6 w' => ∃ (k3 : List (S32)) (n0 : Int), v6 = .int .i64 n0 ∧ Asc (F6.l0 kq a1 k3 n0 a0_0 a0_1 l0_2 = some r) ∧ Asc (kq ≤ k) ∧ Asc (Kd.N k32 32 w' w.heap.size (fun k_ => (o0 k_ ∨ w.heap.size ≤ k_) ∧ k_ ≠ C0) v5 k3) ∧ Asc (Kd.V k32 32 w' w.heap.size (fun k_ => (o0 k_ ∨ w.heap.size ≤ k_) ∧ some k_ ≠ (v5 : Value).ownBlock ∧ k_ ≠ C0) (.slice A0_2 l0_2.length c0_2) l0_2) ∧ Asc (w'.heap[C0]? = some (.cells #[.int .i64 a0_0, .int .i64 a0_1, (.slice A0_2 l0_2.length c0_2)] 24 (0, 0))) ∧ Asc (Below w.heap.size w w'))
 case atStart => exact ⟨(([] : List (S32))), (0), fr, H', ⟨Nat.le_refl _⟩, ⟨kn⟩, ⟨gV D3⟩, ⟨gB N0⟩, ⟨bh HB⟩⟩
 case round =>
  clear H'; obtain ⟨k3, n0, rfl, HA, W4, HO_5, HO_293002, N0, HB⟩ := hrel
  cases gk with
  | zero => exact absurd HA.out (by simp [F6.l0])
  | succ k1 =>
   have H := HA.out; clear HA; simp only [F6.l0] at H
   by_cases c4 : n0 < (l0_2.length : Int)
   ·
    rw [if_pos c4] at H; have E5 := dT c4; clear c4; revert H; refine gi (fun O5 H => ?_)
    by_cases c6 : ((Qab l0_2 n0).f1.f1) = a1
    ·
     rw [if_pos c6] at H; obtain ⟨C5, J5⟩ := et c6; clear c6; revert H; refine gi' (fun c7 H => ?_); have s5 := am_ c7; clear c7; obtain ⟨L4, Z1⟩ : ∃ y_ : List (S32), y_ = (k3 ++ [(⟨(Qab l0_2 n0).f0, (⟨(Qab l0_2 n0).f1.f0, (Qab l0_2 n0).f1.f1, (Qab l0_2 n0).f1.f2, (Qab l0_2 n0).f1.f3, (⟨(Qab l0_2 n0).f1.f4.f0, (Qab l0_2 n0).f1.f4.f1⟩ : S28)⟩ : S30)⟩ : S32)]) := ⟨_, rfl⟩; replace H : (F6.l0 k1 a1 L4 (wrap64 (n0 + 1)) a0_0 a0_1 l0_2) = some r := by first | (rw [Z1]; with_reducible exact H) | (have H := (Option.bind_some _ _).symm.trans H; first | (rw [Z1]; with_reducible exact H) | with_reducible exact H) | with_reducible exact H | (rw [Z1]; exact H) | exact H
     have K4 := am_ Z1; clear Z1; have H' := am_ H; clear H; have _ := bx3 N0; have U1 : 0 ≤ (n0 : Int) := dt; have P1 : n0 < (l0_2.length : Int) := dt; obtain ⟨C4, s3, u3, m3, C3, E4, Z3, s4, J3, Y0, D1, S3, U3, V0, Q0, P0, U0⟩ := Qao (Kd.V_reads' HO_293002.out).2.2 n0 U1 P1; cases E4; obtain ⟨N4, D2, J2, O0⟩ := Kd.V_get HO_293002.out z32 n0 U1 (by first | exact P1 | exact dt | (have e_ := (Kd.V_reads' HO_293002.out).1; omega)); obtain ⟨u4, Q3, m4, k4, rfl, I0, M0, L0, E0⟩ := Qap J2; have u0 := O0 3 _ rfl; rw [Qaf _ _ 3 (by omega)] at u0; replace u0 := Option.some.inj (u0.symm.trans Y0)
     injection u0 with hva_ hvn_ hvc_
     rw [hva_] at M0; rw [hvc_] at I0; have V1 := am_ (show Kd.V Qbm 107 _ w.heap.size _ _ ((Qab l0_2 n0).f1.f2) from Kd.V_mk I0 M0); clear hva_ hvn_ hvc_ M0 I0; have A0 := O0 4 _ rfl; rw [Qaf _ _ 4 (by omega)] at A0; replace A0 := Option.some.inj (A0.symm.trans D1)
     injection A0 with hva_ hvn_ hvc_
     rw [hva_] at E0; rw [hvc_] at L0; have O1 := am_ (show Kd.V Kd.string 9 _ w.heap.size _ _ ((Qab l0_2 n0).f1.f3) from Kd.V_mk L0 E0); clear hva_ hvn_ hvc_ E0 L0 O0 D2; have I3 := am_ Q0; have X3 := am_ V0; clear Q0 V0; have Y3 := am_ U0; have N3 := am_ P0; clear U0 P0; replace U1 := eq_true U1; replace P1 := eq_true P1; have L3 : 0 ≤ (n0 : Int) := dt; have V3 : n0 < (l0_2.length : Int) := dt; obtain ⟨J4, D5, I5, m5, A5, p5, Y4, X4, c5, V2, Y2, R4, i5, Z2, Q2, L2, N2⟩ := Qao (Kd.V_reads' HO_293002.out).2.2 n0 L3 V3; obtain rfl : C4 = J4 := (by injection p5); obtain ⟨L5, I4, D4, C2⟩ := Kd.V_get HO_293002.out z32 n0 L3 (by first | exact V3 | exact dt | (have e_ := (Kd.V_reads' HO_293002.out).1; omega)); obtain ⟨k5, S4, P4, Q4, rfl, X1, Y1, N1, Q1⟩ := Qap D4; have C1 := C2 3 _ rfl; rw [Qaf _ _ 3 (by omega)] at C1; replace C1 := Option.some.inj (C1.symm.trans V2)
     injection C1 with hva_ hvn_ hvc_
     rw [hva_] at Y1; rw [hvc_] at X1; have L1 := am_ (show Kd.V Qbm 107 _ w.heap.size _ _ ((Qab l0_2 n0).f1.f2) from Kd.V_mk X1 Y1); clear hva_ hvn_ hvc_ Y1 X1; have X0 := C2 4 _ rfl; rw [Qaf _ _ 4 (by omega)] at X0; replace X0 := Option.some.inj (X0.symm.trans Y2)
     injection X0 with hva_ hvn_ hvc_
     rw [hva_] at Q1; rw [hvc_] at N1; have Z0 := am_ (show Kd.V Kd.string 9 _ w.heap.size _ _ ((Qab l0_2 n0).f1.f3) from Kd.V_mk N1 Q1); clear hva_ hvn_ hvc_ Q1 N1 C2 I4; have l5 := am_ Q2; have V4 := am_ Z2; clear Q2 Z2; have U4 := am_ N2; have Z4 := am_ L2; clear N2 L2; replace L3 := eq_true L3; replace V3 := eq_true V3; have ea_ := Option.some.inj (Y0.symm.trans V2)
     injection ea_ with ea_ en_ ec_
     subst ea_; subst ec_; clear en_; have ea_ := Option.some.inj (D1.symm.trans Y2)
     injection ea_ with ea_ en_ ec_
     subst ea_; subst ec_; clear en_
     go_wp2_with (first | ((with_reducible refine Qat (b := .append) (xs := #[.tmp 23, .tmp 29]) rfl ?_); at_builtin; refine Kd.N_append k32 (w0 := w) w.heap.size rfl (.tmp 23) (.tmp 29) 22 32 (.agg #[(.string ⟨#[]⟩), (.int .i64 0), (.int .i64 0), (.slice none 0 0), (.slice none 0 0), (.int .i64 0), (.int .i64 0)]) 96 rfl Tryz.underlying22 Qc5 rfl (by decide) (by omega) u5 k3 (⟨(Qab l0_2 n0).f0, (⟨(Qab l0_2 n0).f1.f0, (Qab l0_2 n0).f1.f1, (Qab l0_2 n0).f1.f2, (Qab l0_2 n0).f1.f3, (⟨(Qab l0_2 n0).f1.f4.f0, (Qab l0_2 n0).f1.f4.f1⟩ : S28)⟩ : S30)⟩ : S32) [.string ((Qab l0_2 n0).f0), .int .i64 ((Qab l0_2 n0).f1.f0), .int .i64 ((Qab l0_2 n0).f1.f1), .slice s3 ((Qab l0_2 n0).f1.f2).length u3, .slice m3 ((Qab l0_2 n0).f1.f3).length C3, .int .i64 ((Qab l0_2 n0).f1.f4.f0), .int .i64 ((Qab l0_2 n0).f1.f4.f1)] (fun k_ => (o0 k_ ∨ w.heap.size ≤ k_) ∧ k_ ≠ C0) (fun k_ => ((fun k_ => (o0 k_ ∨ w.heap.size ≤ k_) ∧ k_ ≠ C0)) k_ ∧ some k_ ≠ (u5 : Value).ownBlock) rfl rfl ?aP (fun _ hk => hk) ?aF ?aO ?aB ?aS ?aL ?_; (case aP => exact (Qc9 _ _ (⟨(Qab l0_2 n0).f0, (⟨(Qab l0_2 n0).f1.f0, (Qab l0_2 n0).f1.f1, (Qab l0_2 n0).f1.f2, (Qab l0_2 n0).f1.f3, (⟨(Qab l0_2 n0).f1.f4.f0, (Qab l0_2 n0).f1.f4.f1⟩ : S28)⟩ : S30)⟩ : S32) (Kd.V_reads' (Kd.V_mono (ok' := (fun k_ => ((fun k_ => (o0 k_ ∨ w.heap.size ≤ k_) ∧ k_ ≠ C0)) k_ ∧ some k_ ≠ (u5 : Value).ownBlock)) (L1.out) (fun k_ hk => ⟨⟨hk.1, hk.2.2⟩, hk.2.1⟩))).2.1 (Kd.V_F (Kd.V_mono (ok' := (fun k_ => ((fun k_ => (o0 k_ ∨ w.heap.size ≤ k_) ∧ k_ ≠ C0)) k_ ∧ some k_ ≠ (u5 : Value).ownBlock)) (L1.out) (fun k_ hk => ⟨⟨hk.1, hk.2.2⟩, hk.2.1⟩))) (Kd.V_reads' (Kd.V_mono (ok' := (fun k_ => ((fun k_ => (o0 k_ ∨ w.heap.size ≤ k_) ∧ k_ ≠ C0)) k_ ∧ some k_ ≠ (u5 : Value).ownBlock)) (Z0.out) (fun k_ hk => ⟨⟨hk.1, hk.2.2⟩, hk.2.1⟩))).2.1 (Kd.V_F (Kd.V_mono (ok' := (fun k_ => ((fun k_ => (o0 k_ ∨ w.heap.size ≤ k_) ∧ k_ ≠ C0)) k_ ∧ some k_ ≠ (u5 : Value).ownBlock)) (Z0.out) (fun k_ hk => ⟨⟨hk.1, hk.2.2⟩, hk.2.1⟩))))); (case aB => exact (bh HB)); (case aF => exact ge_); (case aO => exact (hN HO_5)); (case aS => exact (Qac (bh HB))); (case aL => have := s5.out; omega); intro N5 w9 ho hb hg hat; rw [← K4.out] at ho; replace HO_293002 := am_ (Kd.V_afterv (ok := (fun k_ => (o0 k_ ∨ w.heap.size ≤ k_) ∧ k_ ≠ C0)) (gV HO_293002) hg hat); replace N0 := tBg N0 hg (Kd.N_ne HO_5.out N0.out (by decide)); replace V1 := am_ (Kd.V_afterv (ok := (fun k_ => (o0 k_ ∨ w.heap.size ≤ k_) ∧ k_ ≠ C0)) (gV V1) hg hat); replace O1 := am_ (Kd.V_afterv (ok := (fun k_ => (o0 k_ ∨ w.heap.size ≤ k_) ∧ k_ ≠ C0)) (gV O1) hg hat); replace L1 := am_ (Kd.V_afterv (ok := (fun k_ => (o0 k_ ∨ w.heap.size ≤ k_) ∧ k_ ≠ C0)) (gV L1) hg hat); replace Z0 := am_ (Kd.V_afterv (ok := (fun k_ => (o0 k_ ∨ w.heap.size ≤ k_) ∧ k_ ≠ C0)) (gV Z0) hg hat); replace HB := am_ hb; have O4 := am_ (ho); clear HO_5 ho hb hg hat))
     go_roundg k1
     case measure => have := W4.out; omega
     case rel => exact ⟨(L4), (wrap64 (n0 + 1)), fr, H', kS W4, ⟨hN O4⟩, ⟨gV HO_293002⟩, ⟨gB N0⟩, ⟨bh HB⟩⟩
    rw [if_neg c6] at H; obtain ⟨C5, J5⟩ := ef c6; have H' := am_ H; clear H; have _ := bx3 N0; have U1 : 0 ≤ (n0 : Int) := dt; have P1 : n0 < (l0_2.length : Int) := dt; obtain ⟨C4, s3, u3, m3, C3, E4, Z3, s4, J3, Y0, D1, S3, U3, V0, Q0, P0, U0⟩ := Qao (Kd.V_reads' HO_293002.out).2.2 n0 U1 P1; cases E4; obtain ⟨N4, D2, J2, O0⟩ := Kd.V_get HO_293002.out z32 n0 U1 (by first | exact P1 | exact dt | (have e_ := (Kd.V_reads' HO_293002.out).1; omega)); obtain ⟨u4, Q3, m4, k4, rfl, I0, M0, L0, E0⟩ := Qap J2; have u0 := O0 3 _ rfl; rw [Qaf _ _ 3 (by omega)] at u0; replace u0 := Option.some.inj (u0.symm.trans Y0)
    injection u0 with hva_ hvn_ hvc_
    rw [hva_] at M0; rw [hvc_] at I0; have V1 := am_ (show Kd.V Qbm 107 _ w.heap.size _ _ ((Qab l0_2 n0).f1.f2) from Kd.V_mk I0 M0); clear hva_ hvn_ hvc_ M0 I0; have A0 := O0 4 _ rfl; rw [Qaf _ _ 4 (by omega)] at A0; replace A0 := Option.some.inj (A0.symm.trans D1)
    injection A0 with hva_ hvn_ hvc_
    rw [hva_] at E0; rw [hvc_] at L0; have O1 := am_ (show Kd.V Kd.string 9 _ w.heap.size _ _ ((Qab l0_2 n0).f1.f3) from Kd.V_mk L0 E0); clear hva_ hvn_ hvc_ E0 L0 O0 D2; have I3 := am_ Q0; have X3 := am_ V0; clear Q0 V0; have Y3 := am_ U0; have N3 := am_ P0; clear U0 P0; replace U1 := eq_true U1; replace P1 := eq_true P1; go_wp2; go_roundg k1
    case measure => have := W4.out; omega
    case rel => exact ⟨(k3), (wrap64 (n0 + 1)), fr, H', kS W4, ⟨hN HO_5⟩, ⟨hV HO_293002⟩, ⟨gB N0⟩, ⟨bh HB⟩⟩
   rw [if_neg c4] at H; have E5 := dF c4; clear c4; obtain rfl := Option.some.inj H; have _ := bx3 N0; go_wp2; go_ret; exact ⟨_, fe, gN HO_5, bh HB⟩

mutual
def Fe.l0 : Nat → List (S32) → List ByteArray → Int → Int → Int → List (Qaz) → List ByteArray → Int → Int → Option (List ByteArray)
 | 0, _, _, _, _, _, _, _, _, _ => none
 | k + 1, x5, x6, x7, A0, u0, o0, n0, E0, C0 => if x7 < (n0.length : Int) then (Fe.l1 k x5 x6 x7 false 0 A0 u0 o0 n0 E0 C0) else (some x6)
def Fe.l1 : Nat → List (S32) → List ByteArray → Int → Bool → Int → Int → Int → List (Qaz) → List ByteArray → Int → Int → Option (List ByteArray)
 | 0, _, _, _, _, _, _, _, _, _, _, _ => none
 | k + 1, x5, x6, x7, x8, x9, A0, u0, o0, n0, E0, C0 => if x9 < (x5.length : Int) then (if x8 = true then (Fe.l1 k x5 x6 x7 true (wrap64 (x9 + 1)) A0 u0 o0 n0 E0 C0) else (if 0 ≤ x9 then (if 0 ≤ x7 then (if x7 < (n0.length : Int) then (Fe.l1 k x5 x6 x7 (((Qab x5 x9).f0).toList == (Qby ByteArray.empty n0 x7).toList) (wrap64 (x9 + 1)) A0 u0 o0 n0 E0 C0) else (none)) else (none)) else (none))) else (if x8 = true then (Fe.l0 k x5 x6 (wrap64 (x7 + 1)) A0 u0 o0 n0 E0 C0) else (none))
end
def Fe.f (k : Nat) (a0_0 a0_1 : Int) (l0_2 : List (S32)) (o0 n0 : Int) (C0 : List (Qaz)) (I0 : List ByteArray) (u0 A0 : Int) : Option (List ByteArray) := if (wrap64 (n0 - 1)) ≤ a0_1 then (some ([] : List ByteArray)) else ((F6.f k a0_0 a0_1 l0_2 (wrap64 (n0 - 1))).bind fun E0 => (Fe.l0 k E0 ([] : List ByteArray) 0 o0 n0 C0 I0 u0 A0))
theorem Fe.mono_l : ∀ k, (∀ y0 y1 y2 y3 y4 y5 y6 y7 y8, LeO (Fe.l0 k y0 y1 y2 y3 y4 y5 y6 y7 y8) (Fe.l0 (k + 1) y0 y1 y2 y3 y4 y5 y6 y7 y8)) ∧ (∀ y0 y1 y2 y3 y4 y5 y6 y7 y8 y9 u0, LeO (Fe.l1 k y0 y1 y2 y3 y4 y5 y6 y7 y8 y9 u0) (Fe.l1 (k + 1) y0 y1 y2 y3 y4 y5 y6 y7 y8 y9 u0))
 | 0 => ⟨fun _ _ _ _ _ _ _ _ _ r h => by simp [Fe.l0] at h, fun _ _ _ _ _ _ _ _ _ _ _ r h => by simp [Fe.l1] at h⟩
 | k + 1 => by
  obtain ⟨o0, n0⟩ := Fe.mono_l k; refine ⟨?_, ?_⟩
  ·
   intro y0 y1 y2 y3 y4 y5 y6 y7 y8; unfold Fe.l0; repeat' first | (with_reducible first | exact o0 _ _ _ _ _ _ _ _ _ | exact n0 _ _ _ _ _ _ _ _ _ _ _ | apply F6.mono | exact LeO.refl _ | exact LeO.none _ | refine LeO.ite ?_ ?_ | refine LeO.bind ?_ (fun _ => ?_)) | exact o0 _ _ _ _ _ _ _ _ _ | exact n0 _ _ _ _ _ _ _ _ _ _ _ | refine LeO.ite ?_ ?_ | refine LeO.bind ?_ (fun _ => ?_)
  intro y0 y1 y2 y3 y4 y5 y6 y7 y8 y9 u0; unfold Fe.l1; repeat' first | (with_reducible first | exact o0 _ _ _ _ _ _ _ _ _ | exact n0 _ _ _ _ _ _ _ _ _ _ _ | apply F6.mono | exact LeO.refl _ | exact LeO.none _ | refine LeO.ite ?_ ?_ | refine LeO.bind ?_ (fun _ => ?_)) | exact o0 _ _ _ _ _ _ _ _ _ | exact n0 _ _ _ _ _ _ _ _ _ _ _ | refine LeO.ite ?_ ?_ | refine LeO.bind ?_ (fun _ => ?_)
theorem Fe.mono : ∀ a0 a1 a2 a3 a4 a5 a6 a7 a8 k, LeO (Fe.f k a0 a1 a2 a3 a4 a5 a6 a7 a8) (Fe.f (k + 1) a0 a1 a2 a3 a4 a5 a6 a7 a8) := by
 intro a0 a1 a2 a3 a4 a5 a6 a7 a8 k; obtain ⟨o0, n0⟩ := Fe.mono_l k; unfold Fe.f; repeat' first | (with_reducible first | exact o0 _ _ _ _ _ _ _ _ _ | exact n0 _ _ _ _ _ _ _ _ _ _ _ | apply F6.mono | exact LeO.refl _ | exact LeO.none _ | refine LeO.ite ?_ ?_ | refine LeO.bind ?_ (fun _ => ?_)) | exact o0 _ _ _ _ _ _ _ _ _ | exact n0 _ _ _ _ _ _ _ _ _ _ _ | refine LeO.ite ?_ ?_ | refine LeO.bind ?_ (fun _ => ?_)
theorem Fe.calls (k : Nat) (a0_0 a0_1 : Int) (A0_2 : Option Addr) (c0_2 : Nat) (l0_2 : List (S32)) (P0 L0 : Int) (D1 : Option Addr) (C1 : Nat) (M0 : List (Qaz)) (L1 : Option Addr) (Z0 : Nat) (I0 : List ByteArray) (Q0 O0 : Int) (r : List ByteArray) (w : World) (hr0_2 : Kd.C k32 w A0_2 l0_2.length l0_2) (hc0_2 : l0_2.length ≤ c0_2) (J4 : Kd.C Qbm w D1 M0.length M0) (L4 : M0.length ≤ C1) (M4 : Kd.C Kd.string w L1 I0.length I0) (E4 : I0.length ≤ Z0) (h : Fe.f k a0_0 a0_1 l0_2 P0 L0 M0 I0 Q0 O0 = some r) :
  Calls Tryz.prog 46 #[.agg #[.int .i64 a0_0, .int .i64 a0_1, .slice A0_2 l0_2.length c0_2], .agg #[.int .i64 P0, .int .i64 L0, .slice D1 M0.length C1, .slice L1 I0.length Z0, .int .i64 Q0, .int .i64 O0]] w fun e w' => ∃ q6 : Value, e = .returned (q6) ∧ Kd.R Kd.string 9 w' w.heap.size (fun _ => True) q6 r ∧ Below w.heap.size w w' := by
 have R6 := Tryz.underlying24; have Q6 := Tryz.underlying30; have S3 := am_ hr0_2; have Q2 := am_ hc0_2; clear hr0_2 hc0_2; have K6 := am_ J4; have A6 := am_ L4; clear J4 L4; have p5 := am_ M4; have z6 := am_ E4; clear M4 E4; have HB := am_ (Below.refl w.heap.size w); have H := h; unfold Fe.f at H; clear h
 by_cases c3 : (wrap64 (L0 - 1)) ≤ a0_1
 ·
  rw [if_pos c3] at H; have E5 := dT c3; clear c3; obtain rfl := Option.some.inj H; go_enter Tryz.func46, Tryz.ntmps46
  go_wp2_with (first | (refine bf_ 2 #[.int .i64 a0_0, .int .i64 a0_1, .slice A0_2 l0_2.length c0_2] 24 HB ?_; intro E0 hg w4 hb n0 X1 HB; clear hb hg) | (refine bf_ 3 #[.int .i64 P0, .int .i64 L0, .slice D1 M0.length C1, .slice L1 I0.length Z0, .int .i64 Q0, .int .i64 O0] 30 HB ?_; intro C0 hg w5 hb u0 U1 HB; obtain ⟨A0, o0⟩ := tN n0 hg; replace n0 := tBb n0 hb; clear hb hg; have _ := n2 o0; have _ := bx6 u0; have _ := bx3 n0))
  (try simp only [Act.put, List.setIfInBounds_toArray, List.set_cons_zero, List.set_cons_succ])
  repeat (go_quiet (first | (refine bf_ 2 #[.int .i64 a0_0, .int .i64 a0_1, .slice A0_2 l0_2.length c0_2] 24 HB ?_; intro E0 hg w4 hb n0 X1 HB; clear hb hg) | (refine bf_ 3 #[.int .i64 P0, .int .i64 L0, .slice D1 M0.length C1, .slice L1 I0.length Z0, .int .i64 Q0, .int .i64 O0] 30 HB ?_; intro C0 hg w5 hb u0 U1 HB; obtain ⟨A0, o0⟩ := tN n0 hg; replace n0 := tBb n0 hb; clear hb hg; have _ := n2 o0; have _ := bx6 u0; have _ := bx3 n0)); try go_wp2_with (first | (refine bf_ 2 #[.int .i64 a0_0, .int .i64 a0_1, .slice A0_2 l0_2.length c0_2] 24 HB ?_; intro E0 hg w4 hb n0 X1 HB; clear hb hg) | (refine bf_ 3 #[.int .i64 P0, .int .i64 L0, .slice D1 M0.length C1, .slice L1 I0.length Z0, .int .i64 Q0, .int .i64 O0] 30 HB ?_; intro C0 hg w5 hb u0 U1 HB; obtain ⟨A0, o0⟩ := tN n0 hg; replace n0 := tBb n0 hb; clear hb hg; have _ := n2 o0; have _ := bx6 u0; have _ := bx3 n0)))
  go_ret; exact ⟨_, fe, kn, bh HB⟩
 rw [if_neg c3] at H; have E5 := dF c3; clear c3; replace H := bi H; obtain ⟨U0, A9, H⟩ := H; try dsimp only at H
 have H' := am_ H; clear H; go_enter Tryz.func46, Tryz.ntmps46
 go_wp2_with (first | (refine bf_ 2 #[.int .i64 a0_0, .int .i64 a0_1, .slice A0_2 l0_2.length c0_2] 24 HB ?_; intro E0 hg s6 hb n0 X1 HB; clear hb hg) | (refine bf_ 3 #[.int .i64 P0, .int .i64 L0, .slice D1 M0.length C1, .slice L1 I0.length Z0, .int .i64 Q0, .int .i64 O0] 30 HB ?_; intro C0 hg J6 hb u0 U1 HB; obtain ⟨A0, o0⟩ := tN n0 hg; replace n0 := tBb n0 hb; clear hb hg; have _ := n2 o0; obtain ⟨N3, u3, I3, X3, L3, V3, s3, Q3, k3, U3, V2, Y3⟩ := bx6 u0; obtain ⟨C3, D3, Y2, J3, m3, Z3⟩ := bx3 n0) | (go_at_call 36; (with_reducible refine (F6.calls k a0_0 a0_1 (fun k_ => k_ < w.heap.size) _ _ l0_2 (wrap64 (L0 - 1)) U0 _ ?V1 A9.out).mono ?_); (case V1 => exact Kd.V_mk Q2.out (Kd.F_below (Kd.C_F Qbn S3.out) (bh HB))); rintro e I6 ⟨D4, rfl, I4, hb⟩; have Z2 := lqN (fun k_ => k_ ≠ E0 ∧ k_ ≠ C0) I4 HB; replace n0 := tBb n0 hb; replace u0 := tBb u0 hb; replace HB := tHb HB hb; (try clear hb I4)))
 (try simp only [Act.put, List.setIfInBounds_toArray, List.set_cons_zero, List.set_cons_succ])
 repeat (go_quiet (first | (refine bf_ 2 #[.int .i64 a0_0, .int .i64 a0_1, .slice A0_2 l0_2.length c0_2] 24 HB ?_; intro E0 hg s6 hb n0 X1 HB; clear hb hg) | (refine bf_ 3 #[.int .i64 P0, .int .i64 L0, .slice D1 M0.length C1, .slice L1 I0.length Z0, .int .i64 Q0, .int .i64 O0] 30 HB ?_; intro C0 hg J6 hb u0 U1 HB; obtain ⟨A0, o0⟩ := tN n0 hg; replace n0 := tBb n0 hb; clear hb hg; have _ := n2 o0; obtain ⟨N3, u3, I3, X3, L3, V3, s3, Q3, k3, U3, V2, Y3⟩ := bx6 u0; obtain ⟨C3, D3, Y2, J3, m3, Z3⟩ := bx3 n0) | (go_at_call 36; (with_reducible refine (F6.calls k a0_0 a0_1 (fun k_ => k_ < w.heap.size) _ _ l0_2 (wrap64 (L0 - 1)) U0 _ ?V1 A9.out).mono ?_); (case V1 => exact Kd.V_mk Q2.out (Kd.F_below (Kd.C_F Qbn S3.out) (bh HB))); rintro e I6 ⟨D4, rfl, I4, hb⟩; have Z2 := lqN (fun k_ => k_ ≠ E0 ∧ k_ ≠ C0) I4 HB; replace n0 := tBb n0 hb; replace u0 := tBb u0 hb; replace HB := tHb HB hb; (try clear hb I4))); try go_wp2_with (first | (refine bf_ 2 #[.int .i64 a0_0, .int .i64 a0_1, .slice A0_2 l0_2.length c0_2] 24 HB ?_; intro E0 hg s6 hb n0 X1 HB; clear hb hg) | (refine bf_ 3 #[.int .i64 P0, .int .i64 L0, .slice D1 M0.length C1, .slice L1 I0.length Z0, .int .i64 Q0, .int .i64 O0] 30 HB ?_; intro C0 hg J6 hb u0 U1 HB; obtain ⟨A0, o0⟩ := tN n0 hg; replace n0 := tBb n0 hb; clear hb hg; have _ := n2 o0; obtain ⟨N3, u3, I3, X3, L3, V3, s3, Q3, k3, U3, V2, Y3⟩ := bx6 u0; obtain ⟨C3, D3, Y2, J3, m3, Z3⟩ := bx3 n0) | (go_at_call 36; (with_reducible refine (F6.calls k a0_0 a0_1 (fun k_ => k_ < w.heap.size) _ _ l0_2 (wrap64 (L0 - 1)) U0 _ ?V1 A9.out).mono ?_); (case V1 => exact Kd.V_mk Q2.out (Kd.F_below (Kd.C_F Qbn S3.out) (bh HB))); rintro e I6 ⟨D4, rfl, I4, hb⟩; have Z2 := lqN (fun k_ => k_ ≠ E0 ∧ k_ ≠ C0) I4 HB; replace n0 := tBb n0 hb; replace u0 := tBb u0 hb; replace HB := tHb HB hb; (try clear hb I4))))
 go_loopg [6, 7] k (fun kq v6 v7 w' => ∃ (N2 : List ByteArray) (Y0 : Int), v7 = .int .i64 Y0 ∧ Asc (Fe.l0 kq U0 N2 Y0 P0 L0 M0 I0 Q0 O0 = some r) ∧ Asc (kq ≤ k) ∧ Asc (Kd.N k32 32 w' w.heap.size (fun k_ => some k_ ≠ (v6 : Value).ownBlock ∧ k_ ≠ E0 ∧ k_ ≠ C0) D4 U0) ∧ Asc (Kd.R Kd.string 9 w' w.heap.size (fun _ => True) v6 N2) ∧ Asc (w'.heap[E0]? = some (.cells #[.int .i64 a0_0, .int .i64 a0_1, (.slice A0_2 l0_2.length c0_2)] 24 (0, 0))) ∧ Asc (w'.heap[C0]? = some (.cells #[.int .i64 P0, .int .i64 L0, (.slice D1 M0.length C1), (.slice L1 I0.length Z0), .int .i64 Q0, .int .i64 O0] 30 (0, 0))) ∧ Asc (Below w.heap.size w w'))
 case atStart => exact ⟨(([] : List ByteArray)), (0), fr, H', ⟨Nat.le_refl _⟩, ⟨gN Z2⟩, ⟨kn⟩, ⟨gB n0⟩, ⟨gB u0⟩, ⟨bh HB⟩⟩
 case round =>
  clear H'; try clear E5 N3 u3 I3 X3 L3 V3 C3 D3 Y2 s3 Q3 k3 U3 V2 Y3 J3 m3 Z3
  obtain ⟨N2, Y0, rfl, HA, U4, HO_5, HO_6, n0, u0, HB⟩ := hrel
  cases gk with
  | zero => exact absurd HA.out (by simp [Fe.l0])
  | succ k1 =>
   have H := HA.out; clear HA; simp only [Fe.l0] at H
   by_cases R4 : Y0 < (I0.length : Int)
   ·
    rw [if_pos R4] at H; have K4 := dT R4; clear R4; have H' := am_ H; clear H; have _ := n2 o0; obtain ⟨X4, A5, c5, s5, Y4, W4, k5, D5, Z4, i5, m5, l5⟩ := bx6 u0; go_wp2; repeat (go_quiet (fail); try go_wp2)
    go_loopg [8, 9] k1 (fun kq v8 v9 w' => ∃ (u4 : Bool) (N0 : Int), v8 = .bool u4 ∧ v9 = .int .i64 N0 ∧ Asc (Fe.l1 kq U0 N2 Y0 u4 N0 P0 L0 M0 I0 Q0 O0 = some r) ∧ Asc (kq ≤ k1) ∧ Asc (Kd.N k32 32 w' w.heap.size (fun k_ => some k_ ≠ (u6 : Value).ownBlock ∧ k_ ≠ E0 ∧ k_ ≠ C0) D4 U0) ∧ Asc (Kd.R Kd.string 9 w' w.heap.size (fun _ => True) u6 N2) ∧ Asc (w'.heap[E0]? = some (.cells #[.int .i64 a0_0, .int .i64 a0_1, (.slice A0_2 l0_2.length c0_2)] 24 (0, 0))) ∧ Asc (w'.heap[C0]? = some (.cells #[.int .i64 P0, .int .i64 L0, (.slice D1 M0.length C1), (.slice L1 I0.length Z0), .int .i64 Q0, .int .i64 O0] 30 (0, 0))) ∧ Asc (Below w.heap.size w w'))
    case atStart => exact ⟨(false), (0), fr, fr, H', ⟨Nat.le_refl _⟩, ⟨hN HO_5⟩, ⟨hR HO_6⟩, ⟨gB n0⟩, ⟨gB u0⟩, ⟨bh HB⟩⟩
    case round =>
     clear H'; try clear K4 X4 A5 c5 s5 Y4 W4 k5 D5 Z4 i5 m5 l5
     obtain ⟨u4, N0, rfl, rfl, HA, S4, HO_5, HO_6, n0, u0, HB⟩ := hrel
     cases gk with
     | zero => exact absurd HA.out (by simp [Fe.l1])
     | succ k2 =>
      have H := HA.out; clear HA; simp only [Fe.l1] at H
      by_cases V4 : N0 < (U0.length : Int)
      ·
       rw [if_pos V4] at H; have C5 := dT V4; clear V4; replace H := ib H; obtain ⟨rfl, H⟩ | ⟨rfl, H⟩ := H
       ·
        have H' := am_ H; clear H; obtain ⟨N6, P6, k6⟩ := Kd.N_slice HO_5.out; subst k6; go_wp2; repeat (go_quiet (fail); try go_wp2)
        go_roundg k2
        case measure => have := U4.out; have := S4.out; omega
        case rel => exact ⟨(true), (wrap64 (N0 + 1)), fr, fr, H', ⟨by have := U4.out; have := S4.out; omega⟩, ⟨hN HO_5⟩, ⟨hR HO_6⟩, ⟨gB n0⟩, ⟨gB u0⟩, ⟨bh HB⟩⟩
       revert H; refine gi (fun M6 H => ?_); revert H; refine gi (fun E6 H => ?_); revert H; refine gi (fun D6 H => ?_); have H' := am_ H; clear H; obtain ⟨U6, S6, c6⟩ := Kd.N_slice HO_5.out; subst c6; have k4 : 0 ≤ (N0 : Int) := dt; have s4 : N0 < (U0.length : Int) := dt; obtain ⟨L6, Z5, l6, p6, j6, m6, W5, L5, Y5, m4, C4, V5, P5, Z1, J2, D2, L2⟩ := Qao (Kd.N_reads' HO_5.out).2.2 N0 k4 s4; cases m6; obtain ⟨C6, O4, N4, Y1⟩ := Kd.N_get HO_5.out z32 N0 k4 (by first | exact s4 | exact dt | (have e_ := (Kd.N_reads' HO_5.out).1; omega)); obtain ⟨N5, I5, O5, K5, rfl, Q1, P1, O1, N1⟩ := Qap N4; have V0 := Y1 3 _ rfl; rw [Qaf _ _ 3 (by omega)] at V0; replace V0 := Option.some.inj (V0.symm.trans m4)
       injection V0 with hva_ hvn_ hvc_
       rw [hva_] at P1; rw [hvc_] at Q1; have M5 := am_ (show Kd.V Qbm 107 _ w.heap.size _ _ ((Qab U0 N0).f1.f2) from Kd.V_mk Q1 P1); clear hva_ hvn_ hvc_ P1 Q1; have X0 := Y1 4 _ rfl; rw [Qaf _ _ 4 (by omega)] at X0; replace X0 := Option.some.inj (X0.symm.trans C4)
       injection X0 with hva_ hvn_ hvc_
       rw [hva_] at N1; rw [hvc_] at O1; have U5 := am_ (show Kd.V Kd.string 9 _ w.heap.size _ _ ((Qab U0 N0).f1.f3) from Kd.V_mk O1 N1); clear hva_ hvn_ hvc_ N1 O1 Y1 O4; have Q5 := am_ J2; have J5 := am_ Z1; clear J2 Z1; have X5 := am_ L2; have S5 := am_ D2; clear L2 D2; replace k4 := eq_true k4; replace s4 := eq_true s4; have _ := n2 o0; have _ := bx6 u0; have Q4 : 0 ≤ (Y0 : Int) := dt; have P4 : Y0 < (I0.length : Int) := dt; obtain ⟨r6, o6, C2⟩ := Kd.at_string p5.out Y0 Q4 P4; cases o6; replace C2 := ce HB C2; replace Q4 := eq_true Q4; replace P4 := eq_true P4; go_wp2; repeat (go_quiet (fail); try go_wp2)
       go_roundg k2
       case measure => have := U4.out; have := S4.out; omega
       case rel => exact ⟨((((Qab U0 N0).f0).toList == (Qby ByteArray.empty I0 Y0).toList)), (wrap64 (N0 + 1)), fr, fr, H', ⟨by have := U4.out; have := S4.out; omega⟩, ⟨hN HO_5⟩, ⟨hR HO_6⟩, ⟨gB n0⟩, ⟨gB u0⟩, ⟨bh HB⟩⟩
      rw [if_neg V4] at H; have C5 := dF V4; clear V4
      by_cases R5 : u4 = true
      ·
       subst R5; rw [if_pos rfl] at H; have H' := am_ H; clear H; obtain ⟨O6, V6, i6⟩ := Kd.N_slice HO_5.out; subst i6; go_wp2; repeat (go_quiet (fail); try go_wp2)
       go_roundg k2
       case measure => have := U4.out; have := S4.out; omega
       case rel => exact ⟨(N2), (wrap64 (Y0 + 1)), fr, H', ⟨by have := U4.out; have := S4.out; omega⟩, ⟨hN HO_5⟩, ⟨hR HO_6⟩, ⟨gB n0⟩, ⟨gB u0⟩, ⟨bh HB⟩⟩
      replace R5 := Bool.eq_false_iff.mpr R5; subst R5; have H1 : (none) = some r := by rw [if_neg (show ¬ (false = true) by decide)] at H; exact H
      exact absurd H1 (by simp)
   rw [if_neg R4] at H; have K4 := dF R4; clear R4; obtain rfl := Option.some.inj H; have _ := n2 o0; have _ := bx6 u0; go_wp2; repeat (go_quiet (fail); try go_wp2)
   go_ret; exact ⟨_, fe, hR HO_6, bh HB⟩

def Hd.f (a0_0 a0_1 : Int) (l0_2 : List (Qaz)) (L0 : List ByteArray) (E0 M0 : Int) (o0 n0 : Int) (C0 : List (Qaz)) (I0 : List ByteArray) (u0 A0 : Int) : Option (Bool) := if a0_1 = n0 then (some (decide (a0_0 < o0))) else (some (decide (a0_1 < n0)))
theorem Hd.calls (a0_0 a0_1 : Int) (A0_2 : Option Addr) (c0_2 : Nat) (l0_2 : List (Qaz)) (Z0 : Option Addr) (Q0 : Nat) (C0 : List ByteArray) (Y0 N0 : Int) (C1 I0 : Int) (P0 : Option Addr) (X0 : Nat) (u0 : List (Qaz)) (V0 : Option Addr) (O0 : Nat) (A0 : List ByteArray) (U0 M0 : Int) (r : Bool) (w : World) (hr0_2 : Kd.C Qbm w A0_2 l0_2.length l0_2) (hc0_2 : l0_2.length ≤ c0_2) (N1 : Kd.C Kd.string w Z0 C0.length C0) (O1 : C0.length ≤ Q0) (Q1 : Kd.C Qbm w P0 u0.length u0) (D1 : u0.length ≤ X0) (P1 : Kd.C Kd.string w V0 A0.length A0) (L1 : A0.length ≤ O0) (h : Hd.f a0_0 a0_1 l0_2 C0 Y0 N0 C1 I0 u0 A0 U0 M0 = some r) :
  Calls Tryz.prog 47 #[.agg #[.int .i64 a0_0, .int .i64 a0_1, .slice A0_2 l0_2.length c0_2, .slice Z0 C0.length Q0, .int .i64 Y0, .int .i64 N0], .agg #[.int .i64 C1, .int .i64 I0, .slice P0 u0.length X0, .slice V0 A0.length O0, .int .i64 U0, .int .i64 M0]] w fun e w' => e = .returned (.bool r) ∧ Below w.heap.size w w' := by
 have U3 := Tryz.underlying30; have N3 := am_ hr0_2; have D2 := am_ hc0_2; clear hr0_2 hc0_2; have u3 := am_ N1; have L2 := am_ O1; clear N1 O1; have Q2 := am_ Q1; have Q3 := am_ D1; clear Q1 D1; have Z2 := am_ P1; have S3 := am_ L1; clear P1 L1; have HB := am_ (Below.refl w.heap.size w); have H := h; unfold Hd.f at H; clear h
 by_cases c3 : a0_1 = I0
 ·
  rw [if_pos c3] at H; obtain ⟨C2, Z1⟩ := et c3; clear c3; obtain rfl := Option.some.inj H; go_enter Tryz.func47, Tryz.ntmps47
  go_wp2_with (first | (refine bf_ 2 #[.int .i64 a0_0, .int .i64 a0_1, .slice A0_2 l0_2.length c0_2, .slice Z0 C0.length Q0, .int .i64 Y0, .int .i64 N0] 30 HB ?_; intro U1 hg w4 hb n0 V1 HB; clear hb hg) | (refine bf_ 3 #[.int .i64 C1, .int .i64 I0, .slice P0 u0.length X0, .slice V0 A0.length O0, .int .i64 U0, .int .i64 M0] 30 HB ?_; intro X1 hg w5 hb L0 Y1 HB; obtain ⟨o0, E0⟩ := tN n0 hg; replace n0 := tBb n0 hb; clear hb hg; have _ := n2 o0; have _ := bx6 n0; have _ := bx6 L0))
  go_ret; exact ⟨fe, bh HB⟩
 rw [if_neg c3] at H; obtain ⟨C2, Z1⟩ := ef c3; obtain rfl := Option.some.inj H; go_enter Tryz.func47, Tryz.ntmps47
 go_wp2_with (first | (refine bf_ 2 #[.int .i64 a0_0, .int .i64 a0_1, .slice A0_2 l0_2.length c0_2, .slice Z0 C0.length Q0, .int .i64 Y0, .int .i64 N0] 30 HB ?_; intro U1 hg w9 hb n0 V1 HB; clear hb hg) | (refine bf_ 3 #[.int .i64 C1, .int .i64 I0, .slice P0 u0.length X0, .slice V0 A0.length O0, .int .i64 U0, .int .i64 M0] 30 HB ?_; intro X1 hg V3 hb L0 Y1 HB; obtain ⟨o0, E0⟩ := tN n0 hg; replace n0 := tBb n0 hb; clear hb hg; have _ := n2 o0; have _ := bx6 n0; obtain ⟨J3, s3, k3, C3, I3, Y2, m3, L3, V2, N2, J2, D3⟩ := bx6 L0))
 go_ret; exact ⟨fe, bh HB⟩
def Fp.l0 : Nat → ByteArray → Int → Int → Int → List (S32) → Int → Int → List (Qaz) → List ByteArray → Int → Int → Option (Int × Int × (List (S32)) × Int)
 | 0, _, _, _, _, _, _, _, _, _, _, _ => none
 | k + 1, x6, N0, M0, L0, n0, C0, A0, u0, o0, I0, E0 => if N0 < (n0.length : Int) then (if 0 ≤ N0 then ((Hd.f C0 A0 u0 o0 I0 E0 ((Qab n0 N0).f1.f0) ((Qab n0 N0).f1.f1) ((Qab n0 N0).f1.f2) ((Qab n0 N0).f1.f3) ((Qab n0 N0).f1.f4.f0) ((Qab n0 N0).f1.f4.f1)).bind fun X0 => (if X0 = true then (none) else (Fp.l0 k x6 (wrap64 (N0 + 1)) M0 L0 n0 C0 A0 u0 o0 I0 E0))) else (none)) else ((some (([] : List (S32)) : List (S32))).bind fun O0 => (if 0 ≤ N0 then (if N0 ≤ (n0.length : Int) then ((some (n0.take (N0 : Int).toNat : List (S32))).bind fun V0 => (if O0.length + V0.length < 1466015503701 then ((some (O0 ++ V0 : List (S32))).bind fun Q0 => (if Q0.length < 1466015503701 then ((some (Q0 ++ [(⟨x6, (⟨C0, A0, u0, o0, (⟨I0, E0⟩ : S28)⟩ : S30)⟩ : S32)] : List (S32))).bind fun U0 => ((some (n0.drop (N0 : Int).toNat : List (S32))).bind fun P0 => (if U0.length + P0.length < 1466015503701 then (some (M0, L0, (U0 ++ P0), 0)) else (none)))) else (none))) else (none))) else (none)) else (none)))
def Fp.f (k : Nat) (a0_0 a0_1 : Int) (l0_2 : List (S32)) (u0 n0 : Int) (E0 : List (Qaz)) (I0 : List ByteArray) (A0 C0 : Int) : Option (Int × Int × (List (S32)) × Int) := (Gj.f k u0 n0 E0 I0 A0 C0 a0_0).bind fun o0 => (if o0.2 = 0 then (if n0 ≤ a0_1 then (none) else ((Fu.f k a0_0 a0_1 l0_2 o0.1).bind fun L0 => (if L0.2.2.2.2.2.2.2 = true then (none) else ((Fd.f k a0_0 a0_1 l0_2 u0 n0).bind fun M0 => (if M0.2.2.2.2.2.2.2 = true then (none) else ((Fe.f k a0_0 a0_1 l0_2 u0 n0 E0 I0 A0 C0).bind fun N0 => (if (N0.length : Int) > 0 then (none) else (Fp.l0 k o0.1 0 a0_0 a0_1 l0_2 u0 n0 E0 I0 A0 C0)))))))) else (none))
theorem Fp.mono_l : ∀ k, (∀ y0 y1 y2 y3 y4 y5 y6 y7 y8 y9 n0, LeO (Fp.l0 k y0 y1 y2 y3 y4 y5 y6 y7 y8 y9 n0) (Fp.l0 (k + 1) y0 y1 y2 y3 y4 y5 y6 y7 y8 y9 n0))
 | 0 => fun _ _ _ _ _ _ _ _ _ _ _ r h => by simp [Fp.l0] at h
 | k + 1 => by
  have o0 := Fp.mono_l k
  ·
   intro y0 y1 y2 y3 y4 y5 y6 y7 y8 y9 n0; unfold Fp.l0; repeat' first | (with_reducible first | exact o0 _ _ _ _ _ _ _ _ _ _ _ | apply Gj.mono | apply Fd.mono | apply Fu.mono | apply Fe.mono | exact LeO.refl _ | exact LeO.none _ | refine LeO.ite ?_ ?_ | refine LeO.bind ?_ (fun _ => ?_)) | exact o0 _ _ _ _ _ _ _ _ _ _ _ | refine LeO.ite ?_ ?_ | refine LeO.bind ?_ (fun _ => ?_)
theorem Fp.mono : ∀ a0 a1 a2 a3 a4 a5 a6 a7 a8 k, LeO (Fp.f k a0 a1 a2 a3 a4 a5 a6 a7 a8) (Fp.f (k + 1) a0 a1 a2 a3 a4 a5 a6 a7 a8) := by
 intro a0 a1 a2 a3 a4 a5 a6 a7 a8 k; have n0 := Fp.mono_l k; unfold Fp.f; repeat' first | (with_reducible first | exact n0 _ _ _ _ _ _ _ _ _ _ _ | apply Gj.mono | apply Fd.mono | apply Fu.mono | apply Fe.mono | exact LeO.refl _ | exact LeO.none _ | refine LeO.ite ?_ ?_ | refine LeO.bind ?_ (fun _ => ?_)) | exact n0 _ _ _ _ _ _ _ _ _ _ _ | refine LeO.ite ?_ ?_ | refine LeO.bind ?_ (fun _ => ?_)
def Fp.T16 : Bool × List (List Nat × List Nat) := (true, [([], []), ([], []), ([1], [1]), ([2], [2]), ([0, 3], [0, 3]), ([4], [4]), ([5], [5]), ([5], [5]), ([7, 5], [5, 7]), ([5], [5]), ([8, 9, 5], [5, 8, 9]), ([10, 5], [5, 10]), ([11, 5], [5, 11]), ([6, 12, 5, 5], [5, 6, 12]), ([13, 5], [5, 13]), ([5, 14], [5, 14])])
def Fp.B16 : List Nat := [0, 0, 2, 6, 15, 31, 63, 63, 191, 63, 959, 1983, 4031, 8191, 16383, 32767]
theorem Fp.tab16 : Qcp .any (opsOf Tryz.f25 16) = Fp.T16 := by kernel_rfl
theorem Fp.bits16 : Qbi Fp.T16.2 Fp.B16 = true := by kernel_rfl
theorem Fp.calls (k : Nat) (a0_0 a0_1 : Int) (E0 : Nat → Prop) (A0_2 : Option Addr) (c0_2 : Nat) (l0_2 : List (S32)) (O1 L1 : Int) (A0 : Nat → Prop) (C3 : Option Addr) (J2 : Nat) (Z0 : List (Qaz)) (u0 : Nat → Prop) (m3 : Option Addr) (D2 : Nat) (C1 : List ByteArray) (Q1 P1 : Int) (r1 r2 : Int) (r3 : List (S32)) (r4 : Int) (w : World) (pB : Kd.V k32 32 w w.heap.size (fun k_ => E0 k_) (.slice A0_2 l0_2.length c0_2) l0_2) (qB : Kd.V Qbm 107 w w.heap.size (fun k_ => A0 k_) (.slice C3 Z0.length J2) Z0) (tB : Kd.V Kd.string 9 w w.heap.size (fun k_ => u0 k_) (.slice m3 C1.length D2) C1) (h : Fp.f k a0_0 a0_1 l0_2 O1 L1 Z0 C1 Q1 P1 = some (r1, r2, r3, r4)) :
  Calls Tryz.prog 25 #[.agg #[.int .i64 a0_0, .int .i64 a0_1, .slice A0_2 l0_2.length c0_2], .agg #[.int .i64 O1, .int .i64 L1, .slice C3 Z0.length J2, .slice m3 C1.length D2, .int .i64 Q1, .int .i64 P1]] w fun e w' => ∃ vD : Value, e = .returned (.tuple #[.agg #[.int .i64 r1, .int .i64 r2, vD], .int .i64 r4]) ∧ Kd.V k32 32 w' w.heap.size (fun k_ => ((E0 k_ ∨ A0 k_ ∨ u0 k_) ∨ w.heap.size ≤ k_)) vD r3 ∧ Below w.heap.size w w' := by
 have sE := Tryz.underlying24; have tF := Tryz.underlying30; have pE := Tryz.underlying32; have X0 := am_ (show Kd.V k32 32 w w.heap.size (fun k_ => ((E0 k_ ∨ A0 k_ ∨ u0 k_) ∨ w.heap.size ≤ k_)) (.slice A0_2 l0_2.length c0_2) l0_2 from Kd.V_mono pB (fun k_ hk => .inl (.inl hk))); have U0 := am_ (show Kd.V Qbm 107 w w.heap.size (fun k_ => ((E0 k_ ∨ A0 k_ ∨ u0 k_) ∨ w.heap.size ≤ k_)) (.slice C3 Z0.length J2) Z0 from Kd.V_mono qB (fun k_ hk => .inl (.inr (.inl hk)))); have V0 := am_ (show Kd.V Kd.string 9 w w.heap.size (fun k_ => ((E0 k_ ∨ A0 k_ ∨ u0 k_) ∨ w.heap.size ≤ k_)) (.slice m3 C1.length D2) C1 from Kd.V_mono tB (fun k_ hk => .inl (.inr (.inr hk)))); have HB := am_ (Below.refl w.heap.size w); have H := h; unfold Fp.f at H; clear h; replace H := bi H; obtain ⟨⟨s3, pC⟩, A3, H⟩ := H; try dsimp only at H
 revert H; refine gi' (fun c4 H => ?_); obtain ⟨wC, jD⟩ := et c4; clear c4
 by_cases c5 : L1 ≤ a0_1
 ·
  rw [if_pos c5] at H; exact absurd H (by simp)
 rw [if_neg c5] at H; have cD := dF c5; clear c5; replace H := bi H; obtain ⟨⟨N6, L6, U6, E5, O5, R6, S6, sC⟩, cF, H⟩ := H; try dsimp only at H
 by_cases vA : sC = true
 ·
  subst vA; have H1 : (none) = some (r1, r2, r3, r4) := by rw [if_pos rfl] at H; exact H
  exact absurd H1 (by simp)
 replace vA := Bool.eq_false_iff.mpr vA; subst vA; rw [if_neg (show ¬ (false = true) by decide)] at H; replace H := bi H; obtain ⟨⟨L9, D7, Q8, m6, r6, b8, J9, lD⟩, kF, H⟩ := H; try dsimp only at H
 by_cases mB : lD = true
 ·
  subst mB; have H1 : (none) = some (r1, r2, r3, r4) := by rw [if_pos rfl] at H; exact H
  exact absurd H1 (by simp)
 replace mB := Bool.eq_false_iff.mpr mB; subst mB; rw [if_neg (show ¬ (false = true) by decide)] at H; replace H := bi H; obtain ⟨O6, qF, H⟩ := H; try dsimp only at H
 by_cases jC : (O6.length : Int) > 0
 ·
  rw [if_pos jC] at H; exact absurd H (by simp)
 rw [if_neg jC] at H; have bB : decide (0 < (O6.length : Int)) = false := dF jC; have nB : decide (0 < O6.length) = false := decide_eq_false (by omega); clear jC; have H' := am_ H; clear H; go_enter Tryz.func25, Tryz.ntmps25
 go_wp2_with (first | (refine bf_ 2 #[.int .i64 a0_0, .int .i64 a0_1, .slice A0_2 l0_2.length c0_2] 24 HB ?_; intro I0 hg zE hb M0 xD HB; replace X0 := tVe X0 hg hb; replace U0 := tVe U0 hg hb; replace V0 := tVe V0 hg hb; clear hb hg) | (refine bf_ 3 #[.int .i64 O1, .int .i64 L1, .slice C3 Z0.length J2, .slice m3 C1.length D2, .int .i64 Q1, .int .i64 P1] 30 HB ?_; intro o0 hg vE hb N0 kE HB; replace X0 := tVe X0 hg hb; replace U0 := tVe U0 hg hb; replace V0 := tVe V0 hg hb; obtain ⟨P5, R5⟩ := tN M0 hg; replace M0 := tBb M0 hb; clear hb hg) | (refine bf_ 4 #[.int .i64 0, .int .i64 0, .slice none 0 0] 24 HB ?_; intro L0 hg sF hb P0 yD HB; replace X0 := tVe X0 hg hb; replace U0 := tVe U0 hg hb; replace V0 := tVe V0 hg hb; obtain ⟨Q3, fA⟩ := tN M0 hg; replace M0 := tBb M0 hb; obtain ⟨L3, gA⟩ := tN N0 hg; replace N0 := tBb N0 hb; clear hb hg; have _ := n2 R5; have _ := n2 L3; obtain ⟨s9, M9, L8, M8, S7, E8, r8, J7, cA, w8, A7, W7⟩ := bx6 N0; have _ := n2 Q3; obtain ⟨z8, x9, A8, f9, C7, v8⟩ := bx3 M0) | (refine gl_ (some 19) Tryz.func45 #[.agg #[.int .i64 O1, .int .i64 L1, .slice C3 Z0.length J2, .slice m3 C1.length D2, .int .i64 Q1, .int .i64 P1], .int .i64 a0_0] ?_; (with_reducible refine (Gj.calls k O1 L1 _ _ Z0 _ _ C1 Q1 P1 a0_0 s3 pC _ ?C2 ?s4 ?L4 ?D4 A3.out).mono ?_); (case C2 => exact vC U0); (case s4 => exact vL U0); (case L4 => exact vC V0); (case D4 => exact vL V0); rintro e wE ⟨rfl, hb⟩; refine ⟨_, rfl, ?_⟩; replace X0 := tVb X0 hb; replace U0 := tVb U0 hb; replace V0 := tVb V0 hb; replace M0 := tBb M0 hb; replace N0 := tBb N0 hb; replace P0 := tBb P0 hb; replace HB := tHb HB hb; (try clear hb); obtain ⟨S8, m8, bA, dA, o9, i9, c9, C8, N8, R9, a8, V8⟩ := bx6 N0; obtain ⟨x8, o7, M7, w9, m9, W8⟩ := bx3 M0) | (refine gl_ (some 34) Tryz.func42 #[.agg #[.int .i64 a0_0, .int .i64 a0_1, .slice A0_2 l0_2.length c0_2], .string s3] ?_; (with_reducible refine (Fu.calls k a0_0 a0_1 (fun k_ => (((((E0 k_ ∨ A0 k_ ∨ u0 k_) ∨ w.heap.size ≤ k_) ∧ k_ ≠ I0) ∧ k_ ≠ o0) ∧ k_ ≠ L0)) _ _ l0_2 s3 N6 L6 U6 E5 O5 R6 S6 false _ ?C2 cF.out).mono ?_); (case C2 => exact X0.out); rintro e lE ⟨wF, qE, rfl, P4, kA, hb⟩; refine ⟨_, rfl, ?_⟩; replace X0 := tVb X0 hb; replace U0 := tVb U0 hb; replace V0 := tVb V0 hb; have X1 := lq (fun k_ => ((E0 k_ ∨ A0 k_ ∨ u0 k_) ∨ w.heap.size ≤ k_) ∧ k_ ≠ I0 ∧ k_ ≠ o0 ∧ k_ ≠ L0) P4 HB; have U1 := lq (fun k_ => ((E0 k_ ∨ A0 k_ ∨ u0 k_) ∨ w.heap.size ≤ k_) ∧ k_ ≠ I0 ∧ k_ ≠ o0 ∧ k_ ≠ L0) kA HB; replace M0 := tBb M0 hb; replace N0 := tBb N0 hb; replace P0 := tBb P0 hb; replace HB := tHb HB hb; (try clear hb P4 kA)) | (refine bf_ 8 #[.string (⟨#[]⟩ : ByteArray), .int .i64 0, .int .i64 0, .slice none 0 0, .slice none 0 0, .int .i64 0, .int .i64 0] 32 HB ?_; intro C0 hg gD hb Q0 bE HB; replace X0 := tVe X0 hg hb; replace U0 := tVe U0 hg hb; replace V0 := tVe V0 hg hb; replace X1 := tVe X1 hg hb; replace U1 := tVe U1 hg hb; obtain ⟨M5, K5⟩ := tN M0 hg; replace M0 := tBb M0 hb; obtain ⟨W5, X5⟩ := tN N0 hg; replace N0 := tBb N0 hb; obtain ⟨Y5, Z5⟩ := tN P0 hg; replace P0 := tBb P0 hb; clear hb hg; have _ := n2 K5; have _ := n2 X5; have _ := n2 Z5; obtain ⟨D9, g8, e9, K8, t9, d8, T9, v9, P9, j9, l8, Y8, R7, Y7⟩ := bx7 Q0; obtain ⟨Z4, W4, rfl⟩ := Kd.V_slice X1.out; obtain ⟨p5, Y4, rfl⟩ := Kd.V_slice U1.out) | ((with_reducible refine Qar (t := 32) (p := 8) rfl ?_); refine se_ 32 8 (((((((gD.setCell ⟨C0, 0, none⟩ (.string N6)).setCell ⟨C0, 1, none⟩ (.int .i64 L6)).setCell ⟨C0, 2, none⟩ (.int .i64 U6)).setCell ⟨C0, 3, none⟩ (.slice Z4 E5.length W4)).setCell ⟨C0, 4, none⟩ (.slice p5 O5.length Y4)).setCell ⟨C0, 5, none⟩ (.int .i64 R6)).setCell ⟨C0, 6, none⟩ (.int .i64 S6)) ?_; intro mE hw; replace X0 := gVw (fun k_ => ((E0 k_ ∨ A0 k_ ∨ u0 k_) ∨ w.heap.size ≤ k_) ∧ k_ ≠ I0 ∧ k_ ≠ o0 ∧ k_ ≠ L0 ∧ k_ ≠ C0) X0 hw; replace U0 := gVw (fun k_ => ((E0 k_ ∨ A0 k_ ∨ u0 k_) ∨ w.heap.size ≤ k_) ∧ k_ ≠ I0 ∧ k_ ≠ o0 ∧ k_ ≠ L0 ∧ k_ ≠ C0) U0 hw; replace V0 := gVw (fun k_ => ((E0 k_ ∨ A0 k_ ∨ u0 k_) ∨ w.heap.size ≤ k_) ∧ k_ ≠ I0 ∧ k_ ≠ o0 ∧ k_ ≠ L0 ∧ k_ ≠ C0) V0 hw; replace X1 := gVw (fun k_ => ((E0 k_ ∨ A0 k_ ∨ u0 k_) ∨ w.heap.size ≤ k_) ∧ k_ ≠ I0 ∧ k_ ≠ o0 ∧ k_ ≠ L0 ∧ k_ ≠ C0) X1 hw; replace U1 := gVw (fun k_ => ((E0 k_ ∨ A0 k_ ∨ u0 k_) ∨ w.heap.size ≤ k_) ∧ k_ ≠ I0 ∧ k_ ≠ o0 ∧ k_ ≠ L0 ∧ k_ ≠ C0) U1 hw; replace M0 := sB M0 hw; replace N0 := sB N0 hw; replace P0 := sB P0 hw; replace Q0 := sP #[.string N6, .int .i64 L6, .int .i64 U6, .slice Z4 E5.length W4, .slice p5 O5.length Y4, .int .i64 R6, .int .i64 S6] Q0 hw; replace HB := sH HB hw; clear hw; obtain ⟨O9, Y9, P7, f8, A9, q9⟩ := bx3 M0; obtain ⟨p8, D8, b9, p9, p7, J8, I7, a9, k8, R8, O7, r9⟩ := bx6 N0) | (refine gl_ (some 45) Tryz.func30 #[.agg #[.int .i64 a0_0, .int .i64 a0_1, .slice A0_2 l0_2.length c0_2], .int .i64 O1, .int .i64 L1] ?_; (with_reducible refine (Fd.calls k a0_0 a0_1 (fun k_ => (((E0 k_ ∨ A0 k_ ∨ u0 k_) ∨ w.heap.size ≤ k_) ∧ (k_ ≠ I0 ∧ (k_ ≠ o0 ∧ (k_ ≠ L0 ∧ k_ ≠ C0))))) _ _ l0_2 O1 L1 L9 D7 Q8 m6 r6 b8 J9 false _ ?C2 kF.out).mono ?_); (case C2 => exact X0.out); rintro e nF ⟨nE, yE, rfl, P4, kA, hb⟩; refine ⟨_, rfl, ?_⟩; replace X0 := tVb X0 hb; replace U0 := tVb U0 hb; replace V0 := tVb V0 hb; replace X1 := tVb X1 hb; replace U1 := tVb U1 hb; have N3 := lq (fun k_ => ((E0 k_ ∨ A0 k_ ∨ u0 k_) ∨ w.heap.size ≤ k_) ∧ k_ ≠ I0 ∧ k_ ≠ o0 ∧ k_ ≠ L0 ∧ k_ ≠ C0) P4 HB; have J3 := lq (fun k_ => ((E0 k_ ∨ A0 k_ ∨ u0 k_) ∨ w.heap.size ≤ k_) ∧ k_ ≠ I0 ∧ k_ ≠ o0 ∧ k_ ≠ L0 ∧ k_ ≠ C0) kA HB; replace M0 := tBb M0 hb; replace N0 := tBb N0 hb; replace P0 := tBb P0 hb; replace Q0 := tBb Q0 hb; replace HB := tHb HB hb; (try clear hb P4 kA)) | (refine bf_ 10 #[.string (⟨#[]⟩ : ByteArray), .int .i64 0, .int .i64 0, .slice none 0 0, .slice none 0 0, .int .i64 0, .int .i64 0] 32 HB ?_; intro O0 hg xE hb Y0 pD HB; replace X0 := tVe X0 hg hb; replace U0 := tVe U0 hg hb; replace V0 := tVe V0 hg hb; replace X1 := tVe X1 hg hb; replace U1 := tVe U1 hg hb; replace N3 := tVe N3 hg hb; replace J3 := tVe J3 hg hb; obtain ⟨V5, U5⟩ := tN M0 hg; replace M0 := tBb M0 hb; obtain ⟨I5, N5⟩ := tN N0 hg; replace N0 := tBb N0 hb; obtain ⟨Q5, L5⟩ := tN P0 hg; replace P0 := tBb P0 hb; obtain ⟨jA, S5⟩ := tN Q0 hg; replace Q0 := tBb Q0 hb; clear hb hg; have _ := n2 U5; have _ := n2 N5; have _ := n2 L5; have _ := n2 S5; obtain ⟨t8, U7, g9, X8, Z9, l7, N7, j7, E9, B9, C9, P8, N9, s7⟩ := bx7 Y0; obtain ⟨k6, J6, rfl⟩ := Kd.V_slice N3.out; obtain ⟨I6, s6, rfl⟩ := Kd.V_slice J3.out; obtain ⟨Z7, d9, Z8, i8, t7, K9⟩ := bx3 M0; obtain ⟨Q7, z9, W9, Q9, o8, K7, I9, X9, U8, V7, T8, U9⟩ := bx6 N0) | (refine gl_ (some 52) Tryz.func46 #[.agg #[.int .i64 a0_0, .int .i64 a0_1, .slice A0_2 l0_2.length c0_2], .agg #[.int .i64 O1, .int .i64 L1, .slice C3 Z0.length J2, .slice m3 C1.length D2, .int .i64 Q1, .int .i64 P1]] ?_; (with_reducible refine (Fe.calls k a0_0 a0_1 _ _ l0_2 O1 L1 _ _ Z0 _ _ C1 Q1 P1 O6 _ ?C2 ?s4 ?L4 ?D4 ?C6 ?q6 qF.out).mono ?_); (case C2 => refine (Kd.V_reads' (e := 32) (base := w.heap.size) (ok := fun k_ => ((((E0 k_ ∨ A0 k_ ∨ u0 k_) ∨ w.heap.size ≤ k_) ∧ (k_ ≠ I0 ∧ (k_ ≠ o0 ∧ (k_ ≠ L0 ∧ k_ ≠ C0)))) ∧ k_ ≠ O0)) (n := l0_2.length) (c := c0_2) ?_).2.2; exact (hV X0)); (case s4 => exact vL X0); (case L4 => refine (Kd.V_reads' (e := 107) (base := w.heap.size) (ok := fun k_ => ((((E0 k_ ∨ A0 k_ ∨ u0 k_) ∨ w.heap.size ≤ k_) ∧ (k_ ≠ I0 ∧ (k_ ≠ o0 ∧ (k_ ≠ L0 ∧ k_ ≠ C0)))) ∧ k_ ≠ O0)) (n := Z0.length) (c := J2) ?_).2.2; exact (hV U0)); (case D4 => exact vL U0); (case C6 => refine (Kd.V_reads' (e := 9) (base := w.heap.size) (ok := fun k_ => ((((E0 k_ ∨ A0 k_ ∨ u0 k_) ∨ w.heap.size ≤ k_) ∧ (k_ ≠ I0 ∧ (k_ ≠ o0 ∧ (k_ ≠ L0 ∧ k_ ≠ C0)))) ∧ k_ ≠ O0)) (n := C1.length) (c := D2) ?_).2.2; exact (hV V0)); (case q6 => exact vL V0); rintro e fF ⟨rE, rfl, P4, hb⟩; refine ⟨_, rfl, ?_⟩; replace X0 := am_ (Kd.V_elder' (hV X0) (Kd.R_base P4) hb); replace U0 := am_ (Kd.V_elder' (hV U0) (Kd.R_base P4) hb); replace V0 := am_ (Kd.V_elder' (hV V0) (Kd.R_base P4) hb); replace X1 := am_ (Kd.V_elder' (hV X1) (Kd.R_base P4) hb); replace U1 := am_ (Kd.V_elder' (hV U1) (Kd.R_base P4) hb); replace N3 := am_ (Kd.V_elder' (hV N3) (Kd.R_base P4) hb); replace J3 := am_ (Kd.V_elder' (hV J3) (Kd.R_base P4) hb); have dB := am_ (Kd.R_lower (Kd.R_newM (M := fun k_ => (w.heap.size ≤ k_)) P4 (Qac (bh HB)) (fun k_ h_ => h_)) (Qac (bh HB))); replace M0 := tBb M0 hb; replace N0 := tBb N0 hb; replace P0 := tBb P0 hb; replace Q0 := tBb Q0 hb; replace Y0 := am_ (Qam (g := O0) (o := .cells #[.string L9, .int .i64 D7, .int .i64 Q8, .slice k6 m6.length J6, .slice I6 r6.length s6, .int .i64 b8, .int .i64 J9] 32 (0, 0)) (gP Y0 rfl) hb); replace HB := tHb HB hb; (try clear hb P4); obtain ⟨fE, sD, lA⟩ := Kd.R_slice dB.out; subst lA))
 go_loopg [13] k (fun kq pF w' => ∃ (n0 : Int), pF = .int .i64 n0 ∧ Asc (Fp.l0 kq s3 n0 a0_0 a0_1 l0_2 O1 L1 Z0 C1 Q1 P1 = some (r1, r2, r3, r4)) ∧ Asc (kq ≤ k) ∧ Asc (Kd.V k32 32 w' w.heap.size (fun k_ => ((E0 k_ ∨ A0 k_ ∨ u0 k_) ∨ w.heap.size ≤ k_) ∧ k_ ≠ I0 ∧ k_ ≠ o0 ∧ k_ ≠ L0 ∧ k_ ≠ C0 ∧ k_ ≠ O0) (.slice A0_2 l0_2.length c0_2) l0_2) ∧ Asc (Kd.V Qbm 107 w' w.heap.size (fun k_ => ((E0 k_ ∨ A0 k_ ∨ u0 k_) ∨ w.heap.size ≤ k_) ∧ k_ ≠ I0 ∧ k_ ≠ o0 ∧ k_ ≠ L0 ∧ k_ ≠ C0 ∧ k_ ≠ O0) (.slice C3 Z0.length J2) Z0) ∧ Asc (Kd.V Kd.string 9 w' w.heap.size (fun k_ => ((E0 k_ ∨ A0 k_ ∨ u0 k_) ∨ w.heap.size ≤ k_) ∧ k_ ≠ I0 ∧ k_ ≠ o0 ∧ k_ ≠ L0 ∧ k_ ≠ C0 ∧ k_ ≠ O0) (.slice m3 C1.length D2) C1) ∧ Asc (Kd.V Qbm 107 w' w.heap.size (fun k_ => ((E0 k_ ∨ A0 k_ ∨ u0 k_) ∨ w.heap.size ≤ k_) ∧ k_ ≠ I0 ∧ k_ ≠ o0 ∧ k_ ≠ L0 ∧ k_ ≠ C0 ∧ k_ ≠ O0) (.slice Z4 E5.length W4) E5) ∧ Asc (Kd.V Kd.string 9 w' w.heap.size (fun k_ => ((E0 k_ ∨ A0 k_ ∨ u0 k_) ∨ w.heap.size ≤ k_) ∧ k_ ≠ I0 ∧ k_ ≠ o0 ∧ k_ ≠ L0 ∧ k_ ≠ C0 ∧ k_ ≠ O0) (.slice p5 O5.length Y4) O5) ∧ Asc (Kd.V Qbm 107 w' w.heap.size (fun k_ => ((E0 k_ ∨ A0 k_ ∨ u0 k_) ∨ w.heap.size ≤ k_) ∧ k_ ≠ I0 ∧ k_ ≠ o0 ∧ k_ ≠ L0 ∧ k_ ≠ C0 ∧ k_ ≠ O0) (.slice k6 m6.length J6) m6) ∧ Asc (Kd.V Kd.string 9 w' w.heap.size (fun k_ => ((E0 k_ ∨ A0 k_ ∨ u0 k_) ∨ w.heap.size ≤ k_) ∧ k_ ≠ I0 ∧ k_ ≠ o0 ∧ k_ ≠ L0 ∧ k_ ≠ C0 ∧ k_ ≠ O0) (.slice I6 r6.length s6) r6) ∧ Asc (w'.heap[I0]? = some (.cells #[.int .i64 a0_0, .int .i64 a0_1, (.slice A0_2 l0_2.length c0_2)] 24 (0, 0))) ∧ Asc (w'.heap[o0]? = some (.cells #[.int .i64 O1, .int .i64 L1, (.slice C3 Z0.length J2), (.slice m3 C1.length D2), .int .i64 Q1, .int .i64 P1] 30 (0, 0))) ∧ Asc (w'.heap[L0]? = some (.cells #[.int .i64 0, .int .i64 0, (.slice none 0 0)] 24 (0, 0))) ∧ Asc (w'.heap[C0]? = some (.cells #[.string N6, .int .i64 L6, .int .i64 U6, (.slice Z4 E5.length W4), (.slice p5 O5.length Y4), .int .i64 R6, .int .i64 S6] 32 (0, 0))) ∧ Asc (w'.heap[O0]? = some (.cells #[.string L9, .int .i64 D7, .int .i64 Q8, (.slice k6 m6.length J6), (.slice I6 r6.length s6), .int .i64 b8, .int .i64 J9] 32 (0, 0))) ∧ Asc (Below w.heap.size w w'))
 case atStart => exact ⟨(0), fr, H', ⟨Nat.le_refl _⟩, ⟨gV X0⟩, ⟨gV U0⟩, ⟨gV V0⟩, ⟨gV X1⟩, ⟨gV U1⟩, ⟨gV N3⟩, ⟨gV J3⟩, ⟨gB M0⟩, ⟨gB N0⟩, ⟨gB P0⟩, ⟨gB Q0⟩, ⟨gB Y0⟩, ⟨bh HB⟩⟩
 case round =>
  clear H'; try clear wC jD cD vA mB bB nB s9 M9 L8 M8 S7 E8 z8 x9 A8 S8 m8 bA dA o9 i9 x8 o7 M7 D9 g8 e9 K8 t9 d8 T9 O9 Y9 P7 p8 D8 b9 p9 p7 J8 t8 U7 g9 X8 Z9 l7 N7 Z7 d9 Z8 Q7 z9 W9 Q9 o8 K7 r8 J7 cA w8 A7 W7 f9 C7 v8 c9 C8 N8 R9 a8 V8 w9 m9 W8 v9 P9 j9 l8 Y8 R7 Y7 f8 A9 q9 I7 a9 k8 R8 O7 r9 j7 E9 B9 C9 P8 N9 s7 i8 t7 K9 I9 X9 U8 V7 T8 U9
  obtain ⟨n0, rfl, HA, qD, HO_312002, HO_313002, HO_313003, HO_329003, HO_329004, HO_342003, HO_342004, M0, N0, P0, Q0, Y0, HB⟩ := hrel
  cases gk with
  | zero => exact absurd HA.out (by simp [Fp.l0])
  | succ k1 =>
   have H := HA.out; clear HA; simp only [Fp.l0] at H
   by_cases J5 : n0 < (l0_2.length : Int)
   ·
    rw [if_pos J5] at H; have w7 := dT J5; clear J5; revert H; refine gi (fun zC H => ?_); replace H := bi H; obtain ⟨tC, fD, H⟩ := H; try dsimp only at H
    by_cases M6 : tC = true
    ·
     subst M6; have H1 : (none) = some (r1, r2, r3, r4) := by rw [if_pos rfl] at H; exact H
     exact absurd H1 (by simp)
    replace M6 := Bool.eq_false_iff.mpr M6; subst M6; rw [if_neg (show ¬ (false = true) by decide)] at H; have H' := am_ H; clear H; try go_wp2
    replace HO_312002 := am_ (Kd.V_drew HO_312002.out); replace HO_313002 := am_ (Kd.V_drew HO_313002.out); replace HO_313003 := am_ (Kd.V_drew HO_313003.out); replace HO_329003 := am_ (Kd.V_drew HO_329003.out); replace HO_329004 := am_ (Kd.V_drew HO_329004.out); replace HO_342003 := am_ (Kd.V_drew HO_342003.out); replace HO_342004 := am_ (Kd.V_drew HO_342004.out); replace M0 := am_ (Qag M0.out); replace N0 := am_ (Qag N0.out); replace P0 := am_ (Qag P0.out); replace Q0 := am_ (Qag Q0.out); replace Y0 := am_ (Qag Y0.out); replace HB := am_ (Qaj HB.out); have W6 : 0 ≤ (n0 : Int) := dt; have X6 : n0 < (l0_2.length : Int) := dt; obtain ⟨N1, o6, l6, c6, E6, yC, i5, S4, V4, m4, V3, l5, U4, A5, X4, m5, R4⟩ := Qao (Kd.V_reads' HO_312002.out).2.2 n0 W6 X6; cases yC; obtain ⟨rD, m7, k9, Q4⟩ := Kd.V_get HO_312002.out z32 n0 W6 (by first | exact X6 | exact dt | (have e_ := (Kd.V_reads' HO_312002.out).1; omega)); obtain ⟨cC, fC, kC, dC, rfl, k4, U3, Y3, S3⟩ := Qap k9; have N2 := Q4 3 _ rfl; rw [Qaf _ _ 3 (by omega)] at N2; replace N2 := Option.some.inj (N2.symm.trans m4)
    injection N2 with hva_ hvn_ hvc_
    rw [hva_] at U3; rw [hvc_] at k4; have Z3 := am_ (show Kd.V Qbm 107 _ w.heap.size _ _ ((Qab l0_2 n0).f1.f2) from Kd.V_mk k4 U3); clear hva_ hvn_ hvc_ U3 k4; have L2 := Q4 4 _ rfl; rw [Qaf _ _ 4 (by omega)] at L2; replace L2 := Option.some.inj (L2.symm.trans V3)
    injection L2 with hva_ hvn_ hvc_
    rw [hva_] at S3; rw [hvc_] at Y3; have X3 := am_ (show Kd.V Kd.string 9 _ w.heap.size _ _ ((Qab l0_2 n0).f1.f3) from Kd.V_mk Y3 S3); clear hva_ hvn_ hvc_ S3 Y3 Q4 m7; have V2 := am_ X4; have V6 := am_ A5; clear X4 A5; have Q2 := am_ R4; have Q6 := am_ m5; clear R4 m5; replace W6 := eq_true W6; replace X6 := eq_true X6; refine Qcw (n := 16) (S := fun w' => w'.cell? ⟨I0, 0, none⟩ = some (.int .i64 a0_0) ∧ w'.cell? ⟨I0, 1, none⟩ = some (.int .i64 a0_1) ∧ w'.cell? ⟨I0, 2, none⟩ = some (.slice (some N1) l0_2.length c0_2) ∧ w'.cell? ⟨o0, 0, none⟩ = some (.int .i64 O1) ∧ w'.cell? ⟨o0, 1, none⟩ = some (.int .i64 L1) ∧ w'.cell? ⟨o0, 2, none⟩ = some (.slice C3 Z0.length J2) ∧ w'.cell? ⟨o0, 3, none⟩ = some (.slice m3 C1.length D2) ∧ w'.cell? ⟨o0, 4, none⟩ = some (.int .i64 Q1) ∧ w'.cell? ⟨o0, 5, none⟩ = some (.int .i64 P1) ∧ w'.cell? (N1.add ((n0).toNat * 7)) = some (.string ((Qab l0_2 n0).f0)) ∧ w'.cell? ⟨(N1.add ((n0).toNat * 7)).block, (N1.add ((n0).toNat * 7)).off + 1, none⟩ = some (.int .i64 ((Qab l0_2 n0).f1.f0)) ∧ w'.cell? ⟨(N1.add ((n0).toNat * 7)).block, (N1.add ((n0).toNat * 7)).off + 2, none⟩ = some (.int .i64 ((Qab l0_2 n0).f1.f1)) ∧ w'.cell? ⟨(N1.add ((n0).toNat * 7)).block, (N1.add ((n0).toNat * 7)).off + 3, none⟩ = some (.slice o6 ((Qab l0_2 n0).f1.f2).length l6) ∧ w'.cell? ⟨(N1.add ((n0).toNat * 7)).block, (N1.add ((n0).toNat * 7)).off + 4, none⟩ = some (.slice c6 ((Qab l0_2 n0).f1.f3).length E6) ∧ w'.cell? ⟨(N1.add ((n0).toNat * 7)).block, (N1.add ((n0).toNat * 7)).off + 5, none⟩ = some (.int .i64 ((Qab l0_2 n0).f1.f4.f0)) ∧ w'.cell? ⟨(N1.add ((n0).toNat * 7)).block, (N1.add ((n0).toNat * 7)).off + 6, none⟩ = some (.int .i64 ((Qab l0_2 n0).f1.f4.f1))) (ds := []) #[false, false, false, false, false, false, false, false, false, false, false, false, false, false, false, false] (by kernel_rfl) rfl rfl ⟨(Qaa M0.out 0).trans rfl, (Qaa M0.out 1).trans rfl, (Qaa M0.out 2).trans rfl, (Qaa N0.out 0).trans rfl, (Qaa N0.out 1).trans rfl, (Qaa N0.out 2).trans rfl, (Qaa N0.out 3).trans rfl, (Qaa N0.out 4).trans rfl, (Qaa N0.out 5).trans rfl, i5, S4, V4, m4, V3, l5, U4⟩ (fun hHeld => ?_); refine Qav Fp.tab16 Fp.bits16 (fun HT_ HW_ => ?_); generalize wr.drew = tE at HO_312002 HO_313002 HO_313003 HO_329003 HO_329004 HO_342003 HO_342004 M0 N0 P0 Q0 Y0 HB Z3 X3 V2 Q2 i5 S4 V4 m4 V3 l5 U4 hHeld ⊢; refine pu_ 0 (some 57) 1 HT_ (h := ?_); refine pu_ 1 (some 58) 3 HT_ (h := ?_); refine tk_ 2 (some 59) 7 HT_ HW_ hHeld (h := ?_); refine pu_ 3 (some 60) 15 HT_ (h := ?_); refine pu_ 4 (some 61) 31 HT_ (h := ?_); refine pu_ 5 (some 62) 63 HT_ (h := ?_); refine pu_ 7 (some 64) 191 HT_ (h := ?_); refine pu_ 9 (some 66) 703 HT_ (h := ?_); refine tk_ 6 (some 63) 767 HT_ HW_ hHeld (h := ?_); refine tk_ 8 (some 65) 1023 HT_ HW_ hHeld (h := ?_); refine pu_ 10 (some 67) 2047 HT_ (h := ?_); refine pu_ 11 (some 68) 4095 HT_ (h := ?_); refine tk_ 12 (some 69) 8191 HT_ HW_ hHeld (h := ?_); refine on_ 13 (some 70) 16383 HT_ (fun K hK => ?_); refine Qdo Tryz.func47 #[.agg #[.int .i64 O1, .int .i64 L1, .slice C3 Z0.length J2, .slice m3 C1.length D2, .int .i64 Q1, .int .i64 P1], .agg #[.int .i64 ((Qab l0_2 n0).f1.f0), .int .i64 ((Qab l0_2 n0).f1.f1), .slice o6 ((Qab l0_2 n0).f1.f2).length l6, .slice c6 ((Qab l0_2 n0).f1.f3).length E6, .int .i64 ((Qab l0_2 n0).f1.f4.f0), .int .i64 ((Qab l0_2 n0).f1.f4.f1)]] ?_
    with_reducible refine (Hd.calls O1 L1 _ _ Z0 _ _ C1 Q1 P1 ((Qab l0_2 n0).f1.f0) ((Qab l0_2 n0).f1.f1) _ _ ((Qab l0_2 n0).f1.f2) _ _ ((Qab l0_2 n0).f1.f3) ((Qab l0_2 n0).f1.f4.f0) ((Qab l0_2 n0).f1.f4.f1) false _ ?C2 ?s4 ?L4 ?D4 ?C6 ?q6 ?cB ?jB fD.out).mono ?_
    (case C2 => exact vC HO_313002)
    (case s4 => exact vL HO_313002)
    (case L4 => exact vC HO_313003)
    (case D4 => exact vL HO_313003)
    (case C6 => repeat (first | exact (gC V2) | (with_reducible refine Kd.C_alloc ?_ _) | (with_reducible refine Kd.C_drewN ?_ _) | (with_reducible refine Kd.C_drew ?_)))
    (case q6 => exact V6.out)
    (case cB => repeat (first | exact (gC Q2) | (with_reducible refine Kd.C_alloc ?_ _) | (with_reducible refine Kd.C_drewN ?_ _) | (with_reducible refine Kd.C_drew ?_)))
    (case jB => exact Q6.out)
    rintro e jF ⟨rfl, hb⟩; have xC := (hb.cell (World.block_lt_of_cell? _ _ (hHeld.2.2.2.2.2.2.2.2.2.1))).trans (hHeld.2.2.2.2.2.2.2.2.2.1); have lB := (hb.cell (World.block_lt_of_cell? _ _ (hHeld.2.2.2.2.2.2.2.2.2.2.1))).trans (hHeld.2.2.2.2.2.2.2.2.2.2.1); have bC := (hb.cell (World.block_lt_of_cell? _ _ (hHeld.2.2.2.2.2.2.2.2.2.2.2.1))).trans (hHeld.2.2.2.2.2.2.2.2.2.2.2.1); have sA := (hb.cell (World.block_lt_of_cell? _ _ (hHeld.2.2.2.2.2.2.2.2.2.2.2.2.1))).trans (hHeld.2.2.2.2.2.2.2.2.2.2.2.2.1); have wB := (hb.cell (World.block_lt_of_cell? _ _ (hHeld.2.2.2.2.2.2.2.2.2.2.2.2.2.1))).trans (hHeld.2.2.2.2.2.2.2.2.2.2.2.2.2.1); have yB := (hb.cell (World.block_lt_of_cell? _ _ (hHeld.2.2.2.2.2.2.2.2.2.2.2.2.2.2.1))).trans (hHeld.2.2.2.2.2.2.2.2.2.2.2.2.2.2.1); have fB := (hb.cell (World.block_lt_of_cell? _ _ (hHeld.2.2.2.2.2.2.2.2.2.2.2.2.2.2.2))).trans (hHeld.2.2.2.2.2.2.2.2.2.2.2.2.2.2.2); refine ⟨_, rfl, ?_⟩; replace HO_312002 := tVb HO_312002 hb; replace HO_313002 := tVb HO_313002 hb; replace HO_313003 := tVb HO_313003 hb; replace HO_329003 := tVb HO_329003 hb; replace HO_329004 := tVb HO_329004 hb; replace HO_342003 := tVb HO_342003 hb; replace HO_342004 := tVb HO_342004 hb; replace Z3 := tVb Z3 hb; replace X3 := tVb X3 hb; replace M0 := tBb M0 hb; replace N0 := tBb N0 hb; replace P0 := tBb P0 hb; replace Q0 := tBb Q0 hb; replace Y0 := tBb Y0 hb; replace V2 := tCb V2 hb; replace Q2 := tCb Q2 hb; replace HB := tHb HB hb
    (try clear hb)
    (try clear xF)
    (try clear hk)
    (try clear hi)
    refine hK.out _ _ ⟨(Qaa M0.out 0).trans rfl, (Qaa M0.out 1).trans rfl, (Qaa M0.out 2).trans rfl, (Qaa N0.out 0).trans rfl, (Qaa N0.out 1).trans rfl, (Qaa N0.out 2).trans rfl, (Qaa N0.out 3).trans rfl, (Qaa N0.out 4).trans rfl, (Qaa N0.out 5).trans rfl, xC, lB, bC, sA, wB, yB, fB⟩ (fun hHeld => ?_); clear hK K; refine Qbb (a' := ?_) ?_ ?_; rotate_left
    ·
     show Act.put _ (some 70) _ = _; exact pt_
    refine pu_ 14 (some 71) 32767 HT_ (h := ?_); refine pu_ 15 (some 72) 65535 HT_ (h := ?_); refine Qbt (Qbc HT_.out (by kernel_rfl)) ?_; try go_wp2
    go_roundg k1
    case measure => have := qD.out; omega
    case rel => exact ⟨(wrap64 (n0 + 1)), fr, H', kS qD, ⟨hV HO_312002⟩, ⟨hV HO_313002⟩, ⟨hV HO_313003⟩, ⟨hV HO_329003⟩, ⟨hV HO_329004⟩, ⟨hV HO_342003⟩, ⟨hV HO_342004⟩, ⟨gB M0⟩, ⟨gB N0⟩, ⟨gB P0⟩, ⟨gB Q0⟩, ⟨gB Y0⟩, ⟨bh HB⟩⟩
   rw [if_neg J5] at H; have w7 := dF J5; clear J5; obtain ⟨C5, C4⟩ : ∃ y_ : List (S32), y_ = (([] : List (S32))) := ⟨_, rfl⟩; replace H : (if 0 ≤ n0 then (if n0 ≤ (l0_2.length : Int) then ((some (l0_2.take (n0 : Int).toNat : List (S32))).bind fun D3 => (if C5.length + D3.length < 1466015503701 then ((some (C5 ++ D3 : List (S32))).bind fun I3 => (if I3.length < 1466015503701 then ((some (I3 ++ [(⟨s3, (⟨O1, L1, Z0, C1, (⟨Q1, P1⟩ : S28)⟩ : S30)⟩ : S32)] : List (S32))).bind fun Y1 => ((some (l0_2.drop (n0 : Int).toNat : List (S32))).bind fun D1 => (if Y1.length + D1.length < 1466015503701 then (some (a0_0, a0_1, (Y1 ++ D1), 0)) else (none)))) else (none))) else (none))) else (none)) else (none)) = some (r1, r2, r3, r4) := by first | (rw [C4]; with_reducible exact H) | (have H := (Option.bind_some _ _).symm.trans H; first | (rw [C4]; with_reducible exact H) | with_reducible exact H) | with_reducible exact H | (rw [C4]; exact H) | exact H
   have g7 := am_ C4; clear C4; revert H; refine gi' (fun j8 H => ?_); have qC := eq_true j8; have dD : decide (0 ≤ n0) = true := dT j8; clear j8; revert H; refine gi' (fun O8 H => ?_); have mD := eq_true O8; have rC : decide (n0 ≤ (l0_2.length : Int)) = true := dT O8; clear O8; obtain ⟨D3, J4⟩ : ∃ y_ : List (S32), y_ = (l0_2.take (n0 : Int).toNat) := ⟨_, rfl⟩; replace H : (if C5.length + D3.length < 1466015503701 then ((some (C5 ++ D3 : List (S32))).bind fun I3 => (if I3.length < 1466015503701 then ((some (I3 ++ [(⟨s3, (⟨O1, L1, Z0, C1, (⟨Q1, P1⟩ : S28)⟩ : S30)⟩ : S32)] : List (S32))).bind fun Y1 => ((some (l0_2.drop (n0 : Int).toNat : List (S32))).bind fun D1 => (if Y1.length + D1.length < 1466015503701 then (some (a0_0, a0_1, (Y1 ++ D1), 0)) else (none)))) else (none))) else (none)) = some (r1, r2, r3, r4) := by first | (rw [J4]; with_reducible exact H) | (have H := (Option.bind_some _ _).symm.trans H; first | (rw [J4]; with_reducible exact H) | with_reducible exact H) | with_reducible exact H | (rw [J4]; exact H) | exact H
   have Z6 := am_ J4; clear J4; revert H; refine gi' (fun nA H => ?_); have B8 := am_ nA; clear nA; obtain ⟨I3, K4⟩ : ∃ y_ : List (S32), y_ = (C5 ++ D3) := ⟨_, rfl⟩; replace H : (if I3.length < 1466015503701 then ((some (I3 ++ [(⟨s3, (⟨O1, L1, Z0, C1, (⟨Q1, P1⟩ : S28)⟩ : S30)⟩ : S32)] : List (S32))).bind fun Y1 => ((some (l0_2.drop (n0 : Int).toNat : List (S32))).bind fun D1 => (if Y1.length + D1.length < 1466015503701 then (some (a0_0, a0_1, (Y1 ++ D1), 0)) else (none)))) else (none)) = some (r1, r2, r3, r4) := by first | (rw [K4]; with_reducible exact H) | (have H := (Option.bind_some _ _).symm.trans H; first | (rw [K4]; with_reducible exact H) | with_reducible exact H) | with_reducible exact H | (rw [K4]; exact H) | exact H
   have wA := am_ K4; clear K4; revert H; refine gi' (fun rA H => ?_); have V9 := am_ rA; clear rA; obtain ⟨Y1, N4⟩ : ∃ y_ : List (S32), y_ = (I3 ++ [(⟨s3, (⟨O1, L1, Z0, C1, (⟨Q1, P1⟩ : S28)⟩ : S30)⟩ : S32)]) := ⟨_, rfl⟩; replace H : ((some (l0_2.drop (n0 : Int).toNat : List (S32))).bind fun D1 => (if Y1.length + D1.length < 1466015503701 then (some (a0_0, a0_1, (Y1 ++ D1), 0)) else (none))) = some (r1, r2, r3, r4) := by first | (rw [N4]; with_reducible exact H) | (have H := (Option.bind_some _ _).symm.trans H; first | (rw [N4]; with_reducible exact H) | with_reducible exact H) | with_reducible exact H | (rw [N4]; exact H) | exact H
   have tA := am_ N4; clear N4; have mC := eq_true (dt : 0 ≤ n0); have nC := eq_true (dt : n0 ≤ (l0_2.length : Int)); obtain ⟨D1, O4⟩ : ∃ y_ : List (S32), y_ = (l0_2.drop (n0 : Int).toNat) := ⟨_, rfl⟩; replace H : (if Y1.length + D1.length < 1466015503701 then (some (a0_0, a0_1, (Y1 ++ D1), 0)) else (none)) = some (r1, r2, r3, r4) := by first | (rw [O4]; with_reducible exact H) | (have H := (Option.bind_some _ _).symm.trans H; first | (rw [O4]; with_reducible exact H) | with_reducible exact H) | with_reducible exact H | (rw [O4]; exact H) | exact H
   have f7 := am_ O4; clear O4; revert H; refine gi' (fun zB H => ?_); have I8 := am_ zB; clear zB; obtain ⟨zA, u4⟩ : ∃ y_ : List (S32), y_ = (Y1 ++ D1) := ⟨_, rfl⟩; replace H : (some (a0_0, a0_1, zA, 0)) = some (r1, r2, r3, r4) := by first | (rw [u4]; with_reducible exact H) | (have H := (Option.bind_some _ _).symm.trans H; first | (rw [u4]; with_reducible exact H) | with_reducible exact H) | with_reducible exact H | (rw [u4]; exact H) | exact H
   have vB := am_ u4; clear u4; replace H := oi4 H; obtain ⟨rfl, rfl, rfl, rfl⟩ := H; try go_wp2
   replace HO_312002 := am_ (Kd.V_drew HO_312002.out); replace HO_313002 := am_ (Kd.V_drew HO_313002.out); replace HO_313003 := am_ (Kd.V_drew HO_313003.out); replace HO_329003 := am_ (Kd.V_drew HO_329003.out); replace HO_329004 := am_ (Kd.V_drew HO_329004.out); replace HO_342003 := am_ (Kd.V_drew HO_342003.out); replace HO_342004 := am_ (Kd.V_drew HO_342004.out); replace M0 := am_ (Qag M0.out); replace N0 := am_ (Qag N0.out); replace P0 := am_ (Qag P0.out); replace Q0 := am_ (Qag Q0.out); replace Y0 := am_ (Qag Y0.out); replace HB := am_ (Qaj HB.out); refine st_ 16 [] (k3_ M0 ct) (fun hHeld => ?_); refine Qav Fp.tab16 Fp.bits16 (fun HT_ HW_ => ?_); generalize wr.drew = lC at HO_312002 HO_313002 HO_313003 HO_329003 HO_329004 HO_342003 HO_342004 M0 N0 P0 Q0 Y0 HB hHeld ⊢; refine pu_ 0 (some 57) 1 HT_ (h := ?_); refine pu_ 1 (some 58) 3 HT_ (h := ?_); refine tk_ 2 (some 59) 7 HT_ HW_ hHeld (h := ?_); refine pu_ 3 (some 60) 15 HT_ (h := ?_); refine pu_ 4 (some 61) 31 HT_ (h := ?_); refine pu_ 5 (some 62) 63 HT_ (h := ?_); refine pn_ 6 (some 63) 127 HT_ (h := ?_); refine pn_ 7 (some 64) 255 HT_ (h := ?_); refine pn_ 8 (some 65) 511 HT_ (h := ?_); refine pn_ 9 (some 66) 1023 HT_ (h := ?_); refine pn_ 10 (some 67) 2047 HT_ (h := ?_); refine pn_ 11 (some 68) 4095 HT_ (h := ?_); refine pn_ 12 (some 69) 8191 HT_ (h := ?_); refine pn_ 13 (some 70) 16383 HT_ (h := ?_); refine pn_ 14 (some 71) 32767 HT_ (h := ?_); refine pu_ 15 (some 72) 65535 HT_ (h := ?_); refine Qbt (Qbc HT_.out (by kernel_rfl)) ?_; try go_wp2_with (first | ((with_reducible refine gd_ 75 ?_); refine Kd.N_lit k32 _ 32 ?hg (N' := 75) ?hd (xs := ([] : List (S32))) (inner := []) (ok := (fun k_ => ((E0 k_ ∨ A0 k_ ∨ u0 k_) ∨ w.heap.size ≤ k_) ∧ k_ ≠ I0 ∧ k_ ≠ o0 ∧ k_ ≠ L0 ∧ k_ ≠ C0 ∧ k_ ≠ O0)) (okp := (fun k_ => ((E0 k_ ∨ A0 k_ ∨ u0 k_) ∨ w.heap.size ≤ k_) ∧ k_ ≠ I0 ∧ k_ ≠ o0 ∧ k_ ≠ L0 ∧ k_ ≠ C0 ∧ k_ ≠ O0)) ?hr ?hp (fun _ hk => hk) ((show ∀ k_, lC.heap.size ≤ k_ → (fun k_ => ((E0 k_ ∨ A0 k_ ∨ u0 k_) ∨ w.heap.size ≤ k_) ∧ k_ ≠ I0 ∧ k_ ≠ o0 ∧ k_ ≠ L0 ∧ k_ ≠ C0 ∧ k_ ≠ O0) k_ from fun k_ hk => ⟨(.inr (Nat.le_trans (Qac (bh HB)) hk)), gFr M0 k_ hk, gFr N0 k_ hk, gFr P0 k_ hk, gFr Q0 k_ hk, gFr Y0 k_ hk⟩) _ (Nat.le_refl _)) (Below.refl _ _) (Nat.le_refl _) (by simp) ?_; (case hd => rfl); (case hg => rfl); (case hr => first | (go_simp; done) | (go_simp; rfl)); (case hp => exact (Qbv.none _ _)); intro l9 gF V1 hb hg_ hnew_; clear hg_ hnew_; (first | rw [← g7.out] at V1 | (simp only [Int.reduceToNat] at V1; rw [← g7.out] at V1)); replace HO_312002 := am_ (Kd.V_elder' (hV HO_312002) (Kd.N_base V1) hb); replace HO_313002 := am_ (Kd.V_elder' (hV HO_313002) (Kd.N_base V1) hb); replace HO_313003 := am_ (Kd.V_elder' (hV HO_313003) (Kd.N_base V1) hb); replace HO_329003 := am_ (Kd.V_elder' (hV HO_329003) (Kd.N_base V1) hb); replace HO_329004 := am_ (Kd.V_elder' (hV HO_329004) (Kd.N_base V1) hb); replace HO_342003 := am_ (Kd.V_elder' (hV HO_342003) (Kd.N_base V1) hb); replace HO_342004 := am_ (Kd.V_elder' (hV HO_342004) (Kd.N_base V1) hb); have Y2 := am_ (Kd.N_lower V1 (Qac (bh HB))); replace M0 := tBb M0 hb; replace N0 := tBb N0 hb; replace P0 := tBb P0 hb; replace Q0 := tBb Q0 hb; replace Y0 := tBb Y0 hb; replace HB := tHb HB hb; clear hb V1; have _ := n2 P5; have _ := n2 Q3; have _ := n2 M5; have _ := n2 V5; have _ := bx3 M0; have S9 : (n0 : Int) ≤ ((l0_2.length : Int) : Int) := dt; obtain ⟨gE, p6, _, k7, _⟩ := info_parts Qc5; have I4 : l0_2.length ≤ c0_2 := (Kd.V_reads' HO_312002.out).2.1; have d7 : Kd.F k32 _ _ A0_2 l0_2.length l0_2 := (Kd.V_at (base := w.heap.size) HO_312002.out).2.2; have P6 := Qqj (P := Tryz.prog) 22 32 .i64 Tryz.underlying22 p6 A0_2 l0_2.length c0_2 n0 (dt) S9 I4; have z6 := Kd.F_take (m := (n0 : Int).toNat) d7 (by omega); have A6 : D3.length = (n0 : Int).toNat := (by rw [Z6.out, List.length_take]; omega); rw [← Z6.out] at z6; rw [← A6] at P6; have Z2 := am_ (show Kd.V k32 32 _ w.heap.size _ (.slice A0_2 D3.length c0_2) D3 from Kd.V_mk (by omega) z6); have cE := am_ (show D3.length ≤ c0_2 from by omega); clear z6 d7 I4 p6 k7; have dE := am_ A6; clear A6; replace S9 := eq_true S9) | ((with_reducible refine Qat (b := .append) (xs := #[.tmp 75, .tmp 79]) rfl ?_); at_builtin; refine Kd.N_append_rows k32 (w0 := w) w.heap.size rfl (.tmp 75) (.tmp 79) 22 32 (.agg #[(.string ⟨#[]⟩), (.int .i64 0), (.int .i64 0), (.slice none 0 0), (.slice none 0 0), (.int .i64 0), (.int .i64 0)]) 96 rfl Tryz.underlying22 Qc5 rfl (by decide) (by omega) l9 C5 D3 _ _ _ (fun k_ => ((E0 k_ ∨ A0 k_ ∨ u0 k_) ∨ w.heap.size ≤ k_) ∧ k_ ≠ I0 ∧ k_ ≠ o0 ∧ k_ ≠ L0 ∧ k_ ≠ C0 ∧ k_ ≠ O0) (fun k_ => ((fun k_ => ((E0 k_ ∨ A0 k_ ∨ u0 k_) ∨ w.heap.size ≤ k_) ∧ k_ ≠ I0 ∧ k_ ≠ o0 ∧ k_ ≠ L0 ∧ k_ ≠ C0 ∧ k_ ≠ O0)) k_ ∧ some k_ ≠ (l9 : Value).ownBlock) rfl rfl ?aO ?aR (fun _ hk => hk) ?aF ?aB ?aS ?aL ?_; (case aR => exact (by skip; exact Kd.V_F (Kd.V_mono (ok' := (fun k_ => ((fun k_ => ((E0 k_ ∨ A0 k_ ∨ u0 k_) ∨ w.heap.size ≤ k_) ∧ k_ ≠ I0 ∧ k_ ≠ o0 ∧ k_ ≠ L0 ∧ k_ ≠ C0 ∧ k_ ≠ O0)) k_ ∧ some k_ ≠ (l9 : Value).ownBlock)) (Z2.out) (fun k_ hk => ⟨⟨hk.1.1, ⟨hk.1.2.1, ⟨hk.1.2.2.1, ⟨hk.1.2.2.2.1, ⟨hk.1.2.2.2.2.1, hk.1.2.2.2.2.2⟩⟩⟩⟩⟩, hk.2⟩)))); (case aB => exact (bh HB)); (case aF => exact ge_); (case aO => exact (hN Y2)); (case aS => exact (Qac (bh HB))); (case aL => have := B8.out; omega); intro D5 vF ho hb hg hat; rw [← wA.out] at ho; replace HO_312002 := am_ (Kd.V_afterv (ok := (fun k_ => ((E0 k_ ∨ A0 k_ ∨ u0 k_) ∨ w.heap.size ≤ k_) ∧ k_ ≠ I0 ∧ k_ ≠ o0 ∧ k_ ≠ L0 ∧ k_ ≠ C0 ∧ k_ ≠ O0)) (hV HO_312002) hg hat); replace HO_313002 := am_ (Kd.V_afterv (ok := (fun k_ => ((E0 k_ ∨ A0 k_ ∨ u0 k_) ∨ w.heap.size ≤ k_) ∧ k_ ≠ I0 ∧ k_ ≠ o0 ∧ k_ ≠ L0 ∧ k_ ≠ C0 ∧ k_ ≠ O0)) (hV HO_313002) hg hat); replace HO_313003 := am_ (Kd.V_afterv (ok := (fun k_ => ((E0 k_ ∨ A0 k_ ∨ u0 k_) ∨ w.heap.size ≤ k_) ∧ k_ ≠ I0 ∧ k_ ≠ o0 ∧ k_ ≠ L0 ∧ k_ ≠ C0 ∧ k_ ≠ O0)) (hV HO_313003) hg hat); replace HO_329003 := am_ (Kd.V_afterv (ok := (fun k_ => ((E0 k_ ∨ A0 k_ ∨ u0 k_) ∨ w.heap.size ≤ k_) ∧ k_ ≠ I0 ∧ k_ ≠ o0 ∧ k_ ≠ L0 ∧ k_ ≠ C0 ∧ k_ ≠ O0)) (hV HO_329003) hg hat); replace HO_329004 := am_ (Kd.V_afterv (ok := (fun k_ => ((E0 k_ ∨ A0 k_ ∨ u0 k_) ∨ w.heap.size ≤ k_) ∧ k_ ≠ I0 ∧ k_ ≠ o0 ∧ k_ ≠ L0 ∧ k_ ≠ C0 ∧ k_ ≠ O0)) (hV HO_329004) hg hat); replace HO_342003 := am_ (Kd.V_afterv (ok := (fun k_ => ((E0 k_ ∨ A0 k_ ∨ u0 k_) ∨ w.heap.size ≤ k_) ∧ k_ ≠ I0 ∧ k_ ≠ o0 ∧ k_ ≠ L0 ∧ k_ ≠ C0 ∧ k_ ≠ O0)) (hV HO_342003) hg hat); replace HO_342004 := am_ (Kd.V_afterv (ok := (fun k_ => ((E0 k_ ∨ A0 k_ ∨ u0 k_) ∨ w.heap.size ≤ k_) ∧ k_ ≠ I0 ∧ k_ ≠ o0 ∧ k_ ≠ L0 ∧ k_ ≠ C0 ∧ k_ ≠ O0)) (hV HO_342004) hg hat); replace M0 := tBg M0 hg (Kd.N_ne Y2.out M0.out (by decide)); replace N0 := tBg N0 hg (Kd.N_ne Y2.out N0.out (by decide)); replace P0 := tBg P0 hg (Kd.N_ne Y2.out P0.out (by decide)); replace Q0 := tBg Q0 hg (Kd.N_away Y2.out (fun _ hk => hk.2.2.2.2.1)); replace Y0 := tBg Y0 hg (Kd.N_away Y2.out (fun _ hk => hk.2.2.2.2.2)); replace Z2 := am_ (Kd.V_afterv (ok := (fun k_ => ((E0 k_ ∨ A0 k_ ∨ u0 k_) ∨ w.heap.size ≤ k_) ∧ k_ ≠ I0 ∧ k_ ≠ o0 ∧ k_ ≠ L0 ∧ k_ ≠ C0 ∧ k_ ≠ O0)) (hV Z2) hg hat); replace HB := am_ hb; have u3 := am_ (ho); clear Y2 ho hb hg hat; have _ := n2 L3; have _ := n2 W5; have _ := n2 I5; have _ := bx6 N0) | ((with_reducible refine Qat (b := .append) (xs := #[.tmp 81, .tmp 85]) rfl ?_); at_builtin; refine Kd.N_append k32 (w0 := w) w.heap.size rfl (.tmp 81) (.tmp 85) 22 32 (.agg #[(.string ⟨#[]⟩), (.int .i64 0), (.int .i64 0), (.slice none 0 0), (.slice none 0 0), (.int .i64 0), (.int .i64 0)]) 96 rfl Tryz.underlying22 Qc5 rfl (by decide) (by omega) D5 I3 (⟨s3, (⟨O1, L1, Z0, C1, (⟨Q1, P1⟩ : S28)⟩ : S30)⟩ : S32) [.string s3, .int .i64 O1, .int .i64 L1, .slice C3 Z0.length J2, .slice m3 C1.length D2, .int .i64 Q1, .int .i64 P1] (fun k_ => ((E0 k_ ∨ A0 k_ ∨ u0 k_) ∨ w.heap.size ≤ k_) ∧ k_ ≠ I0 ∧ k_ ≠ o0 ∧ k_ ≠ L0 ∧ k_ ≠ C0 ∧ k_ ≠ O0) (fun k_ => ((fun k_ => ((E0 k_ ∨ A0 k_ ∨ u0 k_) ∨ w.heap.size ≤ k_) ∧ k_ ≠ I0 ∧ k_ ≠ o0 ∧ k_ ≠ L0 ∧ k_ ≠ C0 ∧ k_ ≠ O0)) k_ ∧ some k_ ≠ (D5 : Value).ownBlock) rfl rfl ?aP (fun _ hk => hk) ?aF ?aO ?aB ?aS ?aL ?_; (case aP => exact (Qc9 _ _ (⟨s3, (⟨O1, L1, Z0, C1, (⟨Q1, P1⟩ : S28)⟩ : S30)⟩ : S32) (Kd.V_reads' (Kd.V_mono (ok' := (fun k_ => ((fun k_ => ((E0 k_ ∨ A0 k_ ∨ u0 k_) ∨ w.heap.size ≤ k_) ∧ k_ ≠ I0 ∧ k_ ≠ o0 ∧ k_ ≠ L0 ∧ k_ ≠ C0 ∧ k_ ≠ O0)) k_ ∧ some k_ ≠ (D5 : Value).ownBlock)) (HO_313002.out) (fun k_ hk => ⟨⟨hk.1.1, ⟨hk.1.2.1, ⟨hk.1.2.2.1, ⟨hk.1.2.2.2.1, ⟨hk.1.2.2.2.2.1, hk.1.2.2.2.2.2⟩⟩⟩⟩⟩, hk.2⟩))).2.1 (Kd.V_F (Kd.V_mono (ok' := (fun k_ => ((fun k_ => ((E0 k_ ∨ A0 k_ ∨ u0 k_) ∨ w.heap.size ≤ k_) ∧ k_ ≠ I0 ∧ k_ ≠ o0 ∧ k_ ≠ L0 ∧ k_ ≠ C0 ∧ k_ ≠ O0)) k_ ∧ some k_ ≠ (D5 : Value).ownBlock)) (HO_313002.out) (fun k_ hk => ⟨⟨hk.1.1, ⟨hk.1.2.1, ⟨hk.1.2.2.1, ⟨hk.1.2.2.2.1, ⟨hk.1.2.2.2.2.1, hk.1.2.2.2.2.2⟩⟩⟩⟩⟩, hk.2⟩))) (Kd.V_reads' (Kd.V_mono (ok' := (fun k_ => ((fun k_ => ((E0 k_ ∨ A0 k_ ∨ u0 k_) ∨ w.heap.size ≤ k_) ∧ k_ ≠ I0 ∧ k_ ≠ o0 ∧ k_ ≠ L0 ∧ k_ ≠ C0 ∧ k_ ≠ O0)) k_ ∧ some k_ ≠ (D5 : Value).ownBlock)) (HO_313003.out) (fun k_ hk => ⟨⟨hk.1.1, ⟨hk.1.2.1, ⟨hk.1.2.2.1, ⟨hk.1.2.2.2.1, ⟨hk.1.2.2.2.2.1, hk.1.2.2.2.2.2⟩⟩⟩⟩⟩, hk.2⟩))).2.1 (Kd.V_F (Kd.V_mono (ok' := (fun k_ => ((fun k_ => ((E0 k_ ∨ A0 k_ ∨ u0 k_) ∨ w.heap.size ≤ k_) ∧ k_ ≠ I0 ∧ k_ ≠ o0 ∧ k_ ≠ L0 ∧ k_ ≠ C0 ∧ k_ ≠ O0)) k_ ∧ some k_ ≠ (D5 : Value).ownBlock)) (HO_313003.out) (fun k_ hk => ⟨⟨hk.1.1, ⟨hk.1.2.1, ⟨hk.1.2.2.1, ⟨hk.1.2.2.2.1, ⟨hk.1.2.2.2.2.1, hk.1.2.2.2.2.2⟩⟩⟩⟩⟩, hk.2⟩))))); (case aB => exact (bh HB)); (case aF => exact ge_); (case aO => exact (hN u3)); (case aS => exact (Qac (bh HB))); (case aL => have := V9.out; omega); intro q8 mF ho hb hg hat; rw [← tA.out] at ho; replace HO_312002 := am_ (Kd.V_afterv (ok := (fun k_ => ((E0 k_ ∨ A0 k_ ∨ u0 k_) ∨ w.heap.size ≤ k_) ∧ k_ ≠ I0 ∧ k_ ≠ o0 ∧ k_ ≠ L0 ∧ k_ ≠ C0 ∧ k_ ≠ O0)) (hV HO_312002) hg hat); replace HO_313002 := am_ (Kd.V_afterv (ok := (fun k_ => ((E0 k_ ∨ A0 k_ ∨ u0 k_) ∨ w.heap.size ≤ k_) ∧ k_ ≠ I0 ∧ k_ ≠ o0 ∧ k_ ≠ L0 ∧ k_ ≠ C0 ∧ k_ ≠ O0)) (hV HO_313002) hg hat); replace HO_313003 := am_ (Kd.V_afterv (ok := (fun k_ => ((E0 k_ ∨ A0 k_ ∨ u0 k_) ∨ w.heap.size ≤ k_) ∧ k_ ≠ I0 ∧ k_ ≠ o0 ∧ k_ ≠ L0 ∧ k_ ≠ C0 ∧ k_ ≠ O0)) (hV HO_313003) hg hat); replace HO_329003 := am_ (Kd.V_afterv (ok := (fun k_ => ((E0 k_ ∨ A0 k_ ∨ u0 k_) ∨ w.heap.size ≤ k_) ∧ k_ ≠ I0 ∧ k_ ≠ o0 ∧ k_ ≠ L0 ∧ k_ ≠ C0 ∧ k_ ≠ O0)) (hV HO_329003) hg hat); replace HO_329004 := am_ (Kd.V_afterv (ok := (fun k_ => ((E0 k_ ∨ A0 k_ ∨ u0 k_) ∨ w.heap.size ≤ k_) ∧ k_ ≠ I0 ∧ k_ ≠ o0 ∧ k_ ≠ L0 ∧ k_ ≠ C0 ∧ k_ ≠ O0)) (hV HO_329004) hg hat); replace HO_342003 := am_ (Kd.V_afterv (ok := (fun k_ => ((E0 k_ ∨ A0 k_ ∨ u0 k_) ∨ w.heap.size ≤ k_) ∧ k_ ≠ I0 ∧ k_ ≠ o0 ∧ k_ ≠ L0 ∧ k_ ≠ C0 ∧ k_ ≠ O0)) (hV HO_342003) hg hat); replace HO_342004 := am_ (Kd.V_afterv (ok := (fun k_ => ((E0 k_ ∨ A0 k_ ∨ u0 k_) ∨ w.heap.size ≤ k_) ∧ k_ ≠ I0 ∧ k_ ≠ o0 ∧ k_ ≠ L0 ∧ k_ ≠ C0 ∧ k_ ≠ O0)) (hV HO_342004) hg hat); replace M0 := tBg M0 hg (Kd.N_ne u3.out M0.out (by decide)); replace N0 := tBg N0 hg (Kd.N_ne u3.out N0.out (by decide)); replace P0 := tBg P0 hg (Kd.N_ne u3.out P0.out (by decide)); replace Q0 := tBg Q0 hg (Kd.N_away u3.out (fun _ hk => hk.2.2.2.2.1)); replace Y0 := tBg Y0 hg (Kd.N_away u3.out (fun _ hk => hk.2.2.2.2.2)); replace Z2 := am_ (Kd.V_afterv (ok := (fun k_ => ((E0 k_ ∨ A0 k_ ∨ u0 k_) ∨ w.heap.size ≤ k_) ∧ k_ ≠ I0 ∧ k_ ≠ o0 ∧ k_ ≠ L0 ∧ k_ ≠ C0 ∧ k_ ≠ O0)) (hV Z2) hg hat); replace HB := am_ hb; have k3 := am_ (ho); clear u3 ho hb hg hat; have _ := bx3 M0; have z7 : (n0 : Int) ≤ ((l0_2.length : Int) : Int) := dt; obtain ⟨jE, D6, _, j6, _⟩ := info_parts Qc5; have Z1 : l0_2.length ≤ c0_2 := (Kd.V_reads' HO_312002.out).2.1; have i7 : Kd.F k32 _ _ A0_2 l0_2.length l0_2 := (Kd.V_at (base := w.heap.size) HO_312002.out).2.2; have qA : (0 : Int) ≤ (n0 : Int) := dt; have K6 := Qn1 (P := Tryz.prog) 22 32 .i64 Tryz.underlying22 D6 7 j6 A0_2 l0_2.length c0_2 n0 qA z7; have M4 := Kd.F_cut (m := (n0 : Int).toNat) (c := c0_2) i7 (by omega) Z1; obtain ⟨yA, s5⟩ : ∃ A1, A1 = (if c0_2 = (n0 : Int).toNat then A0_2 else (A0_2 : Option Addr).map (·.add ((n0 : Int).toNat * 7))) := ⟨_, rfl⟩; obtain ⟨pA, k5⟩ : ∃ c1, c1 = c0_2 - (n0 : Int).toNat := ⟨_, rfl⟩; have E4 : D1.length = l0_2.length - (n0 : Int).toNat := (by rw [f7.out, List.length_drop] <;> omega); rw [show (l0_2).drop (n0 : Int).toNat = D1 from f7.out.symm] at M4; replace M4 : Kd.F k32 _ _ yA D1.length D1 := (by rw [s5]; exact M4); rw [← E4, ← s5, ← k5] at K6; have i6 := am_ (show Kd.V k32 32 _ w.heap.size _ (.slice yA D1.length pA) D1 from Kd.V_mk (by rw [E4, k5]; exact Nat.sub_le_sub_right Z1 _) M4); have wD := am_ (show D1.length ≤ pA from by rw [E4, k5]; exact Nat.sub_le_sub_right Z1 _); clear M4 i7 Z1 D6 j6 k5; have nD := am_ E4; have zD := am_ s5; clear E4 s5; replace z7 := eq_true z7) | ((with_reducible refine Qat (b := .append) (xs := #[.tmp 87, .tmp 91]) rfl ?_); at_builtin; refine Kd.N_append_rows k32 (w0 := w) w.heap.size rfl (.tmp 87) (.tmp 91) 22 32 (.agg #[(.string ⟨#[]⟩), (.int .i64 0), (.int .i64 0), (.slice none 0 0), (.slice none 0 0), (.int .i64 0), (.int .i64 0)]) 96 rfl Tryz.underlying22 Qc5 rfl (by decide) (by omega) q8 Y1 D1 _ _ _ (fun k_ => ((E0 k_ ∨ A0 k_ ∨ u0 k_) ∨ w.heap.size ≤ k_) ∧ k_ ≠ I0 ∧ k_ ≠ o0 ∧ k_ ≠ L0 ∧ k_ ≠ C0 ∧ k_ ≠ O0) (fun k_ => ((fun k_ => ((E0 k_ ∨ A0 k_ ∨ u0 k_) ∨ w.heap.size ≤ k_) ∧ k_ ≠ I0 ∧ k_ ≠ o0 ∧ k_ ≠ L0 ∧ k_ ≠ C0 ∧ k_ ≠ O0)) k_ ∧ some k_ ≠ (q8 : Value).ownBlock) rfl rfl ?aO ?aR (fun _ hk => hk) ?aF ?aB ?aS ?aL ?_; (case aR => exact (by skip; exact Kd.V_F (Kd.V_mono (ok' := (fun k_ => ((fun k_ => ((E0 k_ ∨ A0 k_ ∨ u0 k_) ∨ w.heap.size ≤ k_) ∧ k_ ≠ I0 ∧ k_ ≠ o0 ∧ k_ ≠ L0 ∧ k_ ≠ C0 ∧ k_ ≠ O0)) k_ ∧ some k_ ≠ (q8 : Value).ownBlock)) (i6.out) (fun k_ hk => ⟨⟨hk.1.1, ⟨hk.1.2.1, ⟨hk.1.2.2.1, ⟨hk.1.2.2.2.1, ⟨hk.1.2.2.2.2.1, hk.1.2.2.2.2.2⟩⟩⟩⟩⟩, hk.2⟩)))); (case aB => exact (bh HB)); (case aF => exact ge_); (case aO => exact (hN k3)); (case aS => exact (Qac (bh HB))); (case aL => have := I8.out; omega); intro rF lF ho hb hg hat; rw [← vB.out] at ho; replace HO_312002 := am_ (Kd.V_afterv (ok := (fun k_ => ((E0 k_ ∨ A0 k_ ∨ u0 k_) ∨ w.heap.size ≤ k_) ∧ k_ ≠ I0 ∧ k_ ≠ o0 ∧ k_ ≠ L0 ∧ k_ ≠ C0 ∧ k_ ≠ O0)) (hV HO_312002) hg hat); replace HO_313002 := am_ (Kd.V_afterv (ok := (fun k_ => ((E0 k_ ∨ A0 k_ ∨ u0 k_) ∨ w.heap.size ≤ k_) ∧ k_ ≠ I0 ∧ k_ ≠ o0 ∧ k_ ≠ L0 ∧ k_ ≠ C0 ∧ k_ ≠ O0)) (hV HO_313002) hg hat); replace HO_313003 := am_ (Kd.V_afterv (ok := (fun k_ => ((E0 k_ ∨ A0 k_ ∨ u0 k_) ∨ w.heap.size ≤ k_) ∧ k_ ≠ I0 ∧ k_ ≠ o0 ∧ k_ ≠ L0 ∧ k_ ≠ C0 ∧ k_ ≠ O0)) (hV HO_313003) hg hat); replace HO_329003 := am_ (Kd.V_afterv (ok := (fun k_ => ((E0 k_ ∨ A0 k_ ∨ u0 k_) ∨ w.heap.size ≤ k_) ∧ k_ ≠ I0 ∧ k_ ≠ o0 ∧ k_ ≠ L0 ∧ k_ ≠ C0 ∧ k_ ≠ O0)) (hV HO_329003) hg hat); replace HO_329004 := am_ (Kd.V_afterv (ok := (fun k_ => ((E0 k_ ∨ A0 k_ ∨ u0 k_) ∨ w.heap.size ≤ k_) ∧ k_ ≠ I0 ∧ k_ ≠ o0 ∧ k_ ≠ L0 ∧ k_ ≠ C0 ∧ k_ ≠ O0)) (hV HO_329004) hg hat); replace HO_342003 := am_ (Kd.V_afterv (ok := (fun k_ => ((E0 k_ ∨ A0 k_ ∨ u0 k_) ∨ w.heap.size ≤ k_) ∧ k_ ≠ I0 ∧ k_ ≠ o0 ∧ k_ ≠ L0 ∧ k_ ≠ C0 ∧ k_ ≠ O0)) (hV HO_342003) hg hat); replace HO_342004 := am_ (Kd.V_afterv (ok := (fun k_ => ((E0 k_ ∨ A0 k_ ∨ u0 k_) ∨ w.heap.size ≤ k_) ∧ k_ ≠ I0 ∧ k_ ≠ o0 ∧ k_ ≠ L0 ∧ k_ ≠ C0 ∧ k_ ≠ O0)) (hV HO_342004) hg hat); replace M0 := tBg M0 hg (Kd.N_ne k3.out M0.out (by decide)); replace N0 := tBg N0 hg (Kd.N_ne k3.out N0.out (by decide)); replace P0 := tBg P0 hg (Kd.N_ne k3.out P0.out (by decide)); replace Q0 := tBg Q0 hg (Kd.N_away k3.out (fun _ hk => hk.2.2.2.2.1)); replace Y0 := tBg Y0 hg (Kd.N_away k3.out (fun _ hk => hk.2.2.2.2.2)); replace Z2 := am_ (Kd.V_afterv (ok := (fun k_ => ((E0 k_ ∨ A0 k_ ∨ u0 k_) ∨ w.heap.size ≤ k_) ∧ k_ ≠ I0 ∧ k_ ≠ o0 ∧ k_ ≠ L0 ∧ k_ ≠ C0 ∧ k_ ≠ O0)) (hV Z2) hg hat); replace i6 := am_ (Kd.V_afterv (ok := (fun k_ => ((E0 k_ ∨ A0 k_ ∨ u0 k_) ∨ w.heap.size ≤ k_) ∧ k_ ≠ I0 ∧ k_ ≠ o0 ∧ k_ ≠ L0 ∧ k_ ≠ C0 ∧ k_ ≠ O0)) (hV i6) hg hat); replace HB := am_ hb; have Y6 := am_ (ho); clear k3 ho hb hg hat; have _ := bx3 M0; obtain ⟨xB, mA, rB⟩ := Kd.N_slice Y6.out; subst rB; have _ := n2 Y5; have _ := n2 Q5; have _ := bx3 P0))
   refine bodyPost_ret (Qak rfl _ _ L0 24 #[.int .i64 a0_0, .int .i64 a0_1, .slice xB zA.length mA] (0, 0) _ rfl (gP P0 rfl) Tryz.underlying24 rfl (by kernel_rfl)) rfl ?_; exact ⟨_, fe, Kd.N_V (gN Y6), bh HB⟩
end Go.Proofs.YtopijobdblfhoaaGreat.PTuskChains
