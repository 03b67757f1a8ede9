-- written by a program of this session (pp.py), out of the kit's print and this session's contracts
import Derived.Test.YtopijobdblfhoaaGreatPTuskAsksx0
import Derived.Test.YtopijobdblfhoaaGreatPTuskAsksx2
import Derived.Test.YtopijobdblfhoaaGreatPTuskAsksx3
import Derived.Test.YtopijobdblfhoaaGreatVTuskAsksPi
namespace Go.Proofs.YtopijobdblfhoaaGreat.PTuskAsks
open Go.RowKit Go.Proofs.YtopijobdblfhoaaGreatW.PrintWords Go.Proofs.YtopijobdblfhoaaGreatW.PrintLast Go.Proofs.YtopijobdblfhoaaGreatW.PrintMore
attribute [local go_sem] max2_int max_two
set_option linter.unusedVariables false
set_option linter.unusedSimpArgs false

def G4.l0 : Nat → List ByteArray → ByteArray → Int → Int → Option (Int)
 | 0, _, _, _, _ => none
 | k + 1, x0, x1, x7, x8 => if x8 < x7 then (if 0 ≤ x8 then (if x8 < (x0.length : Int) then (if x1.toList = (rdOf ByteArray.empty x0 x8).toList then (some x8) else (G4.l0 k x0 x1 x7 (wrap64 (x8 + 1)))) else (none)) else (none)) else (some (-1))
def G4.f (k : Nat) (l0 : List ByteArray) (a1 : ByteArray) : Option (Int) := G4.l0 k l0 a1 (l0.length : Int) 0
set_option maxHeartbeats 8000000 in
set_option maxRecDepth 100000 in
theorem G4.calls (k : Nat) (A0 : Option Addr) (c0 : Nat) (l0 : List ByteArray) (a1 : ByteArray) (r : Int) (w : World) (N0 : Kd.C Kd.string w A0 l0.length l0) (M0 : l0.length ≤ c0) (h : G4.f k l0 a1 = some r) :
  Calls Tryz.prog 60 #[.slice A0 l0.length c0, .string a1] w fun e w' => e = .returned (.int .i64 r) ∧ Drawn0 w w' := by
 have O0 := am_ N0
 have U0 := am_ M0
 clear N0 M0
 have H : (G4.l0 k l0 a1 (l0.length : Int) 0) = some r := h
 clear h
 have H' := am_ H
 clear H
 go_enter Tryz.func60, Tryz.ntmps60
 go_wp2
 go_loopg [8] k (fun kq v8 w' => ∃ (a0 : Int), v8 = .int .i64 a0 ∧ Asc (G4.l0 kq l0 a1 (l0.length : Int) a0 = some r) ∧ Asc (kq ≤ k) ∧ Drawn0 w w')
 case atStart => exact ⟨(0), fr, H', ⟨Nat.le_refl _⟩, by repeat (first | exact Drawn0.refl _ | apply Drawn0.step)⟩
 case round =>
  clear H'
  obtain ⟨a0, rfl, HA, L0, ⟨m1, rfl⟩⟩ := hrel
  cases gk with
  | zero => exact absurd HA.out (by simp [G4.l0])
  | succ k1 =>
   have H := HA.out
   clear HA
   simp only [G4.l0] at H
   by_cases c3 : a0 < (l0.length : Int)
   ·
    rw [if_pos c3] at H
    have C0 : decide (a0 < (l0.length : Int)) = true := decide_eq_true c3
    clear c3
    revert H
    refine gi (fun Q0 H => ?_)
    revert H
    refine gi (fun P0 H => ?_)
    by_cases c6 : a1.toList = (rdOf ByteArray.empty l0 a0).toList
    ·
     rw [if_pos c6] at H
     have E0 : (a1.toList == (rdOf ByteArray.empty l0 a0).toList) = true := beq_iff_eq.mpr c6
     have I0 : (a1.toList != (rdOf ByteArray.empty l0 a0).toList) = false := bne_eq_false_iff_eq.mpr c6
     clear c6
     obtain rfl := Option.some.inj H
     have m0 : 0 ≤ (a0 : Int) := dt
     have n0 : a0 < (l0.length : Int) := dt
     obtain ⟨z0, u0, o0⟩ := Kd.at_string O0.out a0 m0 n0
     cases u0
     replace m0 := eq_true m0
     replace n0 := eq_true n0
     go_wp2
     go_ret
     exact ⟨fr, by repeat (first | exact Drawn0.refl _ | apply Drawn0.step)⟩
    rw [if_neg c6] at H
    have E0 : (a1.toList == (rdOf ByteArray.empty l0 a0).toList) = false := beq_eq_false_iff_ne.mpr c6
    have I0 : (a1.toList != (rdOf ByteArray.empty l0 a0).toList) = true := bne_iff_ne.mpr c6
    have H' := am_ H
    clear H
    have m0 : 0 ≤ (a0 : Int) := dt
    have n0 : a0 < (l0.length : Int) := dt
    obtain ⟨z0, u0, o0⟩ := Kd.at_string O0.out a0 m0 n0
    cases u0
    replace m0 := eq_true m0
    replace n0 := eq_true n0
    go_wp2
    go_roundg k1
    case measure => have := L0.out; omega
    case rel => exact ⟨(wrap64 (a0 + 1)), fr, H', kS L0, by repeat (first | exact Drawn0.refl _ | apply Drawn0.step)⟩
   rw [if_neg c3] at H
   have C0 : decide (a0 < (l0.length : Int)) = false := decide_eq_false c3
   clear c3
   obtain rfl := Option.some.inj H
   go_wp2
   go_ret
   exact ⟨fr, by repeat (first | exact Drawn0.refl _ | apply Drawn0.step)⟩

def Gu.f (k : Nat) (l0 : List ByteArray) (a1 : ByteArray) : Option (Bool) := (G4.f k l0 a1).bind fun a0 => (some (decide (a0 ≥ 0)))
set_option maxHeartbeats 8000000 in
set_option maxRecDepth 100000 in
theorem Gu.calls (k : Nat) (A0 : Option Addr) (c0 : Nat) (l0 : List ByteArray) (a1 : ByteArray) (r : Bool) (w : World) (u0 : Kd.C Kd.string w A0 l0.length l0) (o0 : l0.length ≤ c0) (h : Gu.f k l0 a1 = some r) :
  Calls Tryz.prog 35 #[.slice A0 l0.length c0, .string a1] w fun e w' => e = .returned (.bool r) ∧ Drawn0 w w' := by
 have E0 := am_ u0
 have C0 := am_ o0
 clear u0 o0
 have H : ((G4.f k l0 a1).bind fun a0 => (some (decide (a0 ≥ 0)))) = some r := h
 clear h
 replace H := Option.bind_eq_some_iff.mp H
 obtain ⟨a0, z0, H⟩ := H
 try dsimp only at H
 have A3 := am_ z0
 clear z0
 obtain rfl := Option.some.inj H
 go_enter Tryz.func35, Tryz.ntmps35
 go_wp2_with (first | ((with_reducible refine gate_callee (f := 60) rfl ?_); refine gl_ (some 7) Tryz.func60 #[.slice A0 l0.length c0, .string a1] ?_; (with_reducible refine (G4.calls k _ _ l0 a1 a0 _ ?m0 ?n0 A3.out).mono ?_); (case m0 => exact gC E0); (case n0 => exact C0.out); rintro e w' ⟨rfl, ⟨nd, rfl⟩⟩; refine ⟨_, rfl, ?_⟩))
 go_ret
 exact ⟨fr, by repeat (first | exact Drawn0.refl _ | apply Drawn0.step)⟩

def Ft.l0 : Nat → Int → List (S32) → Int → Int → ByteArray → Int → Int → List (S107) → List ByteArray → Int → Int → Option (Int)
 | 0, _, _, _, _, _, _, _, _, _, _, _ => none
 | k + 1, x5, E0, I0, C0, a0, u0, m0, z0, A0, n0, o0 => if C0 < I0 then (if 0 ≤ C0 then (if C0 < (E0.length : Int) then ((Gu.f k ((rd_T32 E0 C0).f1.f3) a0).bind fun L0 => (if L0 = true then (Ft.l0 k (wrap64 (x5 + 1)) E0 I0 (wrap64 (C0 + 1)) a0 u0 m0 z0 A0 n0 o0) else (Ft.l0 k x5 E0 I0 (wrap64 (C0 + 1)) a0 u0 m0 z0 A0 n0 o0))) else (none)) else (none)) else (some x5)
def Ft.f (k : Nat) (a0_0 : Int) (a0_1 : Int) (l0_2 : List (S32)) (u0 : ByteArray) (o0 : Int) (a0 : Int) (z0 : List (S107)) (A0 : List ByteArray) (C0 : Int) (n0 : Int) : Option (Int) := (Fw.f k a0_0 a0_1 l0_2 (wrap64 (a0 + 1))).bind fun m0 => (Ft.l0 k 0 m0 (m0.length : Int) 0 u0 o0 a0 z0 A0 C0 n0)
set_option maxHeartbeats 8000000 in
set_option maxRecDepth 100000 in
theorem Ft.calls (k : Nat) (a0_0 : Int) (a0_1 : Int) (A0_2 : Option Addr) (c0_2 : Nat) (l0_2 : List (S32)) (Z0 : ByteArray) (D2 : Int) (C1 : Int) (N3 : Option Addr) (l3 : Nat) (U1 : List (S107)) (m3 : Option Addr) (L3 : Nat) (N1 : List ByteArray) (L2 : Int) (Q2 : Int) (r : Int) (w : World) (hr0_2 : Kd.C k32 w A0_2 l0_2.length l0_2) (hc0_2 : l0_2.length ≤ c0_2) (W3 : Kd.C k107 w N3 U1.length U1) (Z3 : U1.length ≤ l3) (X3 : Kd.C Kd.string w m3 N1.length N1) (V3 : N1.length ≤ L3) (h : Ft.f k a0_0 a0_1 l0_2 Z0 D2 C1 U1 N1 L2 Q2 = some r) :
  Calls Tryz.prog 14 #[.agg #[.int .i64 a0_0, .int .i64 a0_1, .slice A0_2 l0_2.length c0_2], .agg #[.string Z0, .int .i64 D2, .int .i64 C1, .slice N3 U1.length l3, .slice m3 N1.length L3, .int .i64 L2, .int .i64 Q2]] w fun e w' => e = .returned (.int .i64 r) ∧ Below w.heap.size w w' := by
 have U5 := Tryz.underlying24
 have V5 := Tryz.underlying32
 have J4 := am_ hr0_2
 have l4 := am_ hc0_2
 clear hr0_2 hc0_2
 have P5 := am_ W3
 have K5 := am_ Z3
 clear W3 Z3
 have L5 := am_ X3
 have N5 := am_ V3
 clear X3 V3
 have HB := am_ (Below.refl w.heap.size w)
 have H : ((Fw.f k a0_0 a0_1 l0_2 (wrap64 (C1 + 1))).bind fun z0 => (Ft.l0 k 0 z0 (z0.length : Int) 0 Z0 D2 C1 U1 N1 L2 Q2)) = some r := h
 clear h
 replace H := Option.bind_eq_some_iff.mp H
 obtain ⟨z0, R5, H⟩ := H
 try dsimp only at H
 have A3 := am_ R5
 clear R5
 have H' := am_ H
 clear H
 go_enter Tryz.func14, Tryz.ntmps14
 go_wp2_with (first | ((with_reducible refine gd_ 2 ?_); refine be_ 2 #[.int .i64 a0_0, .int .i64 a0_1, .slice A0_2 l0_2.length c0_2] 24 ?_; intro Z2 hg w4 hbox hb; have m0 := am_ hbox; have L4 := tG HB hg; have I5 := tG HB hg; replace HB := tHb HB hb; clear hb hbox hg) | ((with_reducible refine gd_ 3 ?_); refine be_ 3 #[.string Z0, .int .i64 D2, .int .i64 C1, .slice N3 U1.length l3, .slice m3 N1.length L3, .int .i64 L2, .int .i64 Q2] 32 ?_; intro b3 hg w5 hbox hb; have n0 := am_ hbox; have m4 := tG HB hg; have O5 := tG HB hg; replace HB := tHb HB hb; obtain ⟨J2, i1⟩ := tN m0 hg; replace m0 := tBb m0 hb; clear hb hbox hg; obtain ⟨_, _⟩ := n2 J2; obtain ⟨W4, C5, U4, V4, s5, j5⟩ := bx3 m0; obtain ⟨Q4, m5, b5, S4, a5, i5, c5, R4, P4, Y4, p5, k5, A5, D5⟩ := bx7 n0) | ((with_reducible refine gate_callee (f := 34) rfl ?_); refine gl_ (some 13) Tryz.func34 #[.agg #[.int .i64 a0_0, .int .i64 a0_1, .slice A0_2 l0_2.length c0_2], .int .i64 (wrap64 (C1 + 1))] ?_; (with_reducible refine (Fw.calls k a0_0 a0_1 (fun k_ => k_ < w.heap.size) _ _ l0_2 (wrap64 (C1 + 1)) z0 _ ?V1 A3.out).mono ?_); (case V1 => exact Kd.V_mk l4.out (Kd.F_below (Kd.C_F k32_heap J4.out) (bh HB))); rintro e w9 ⟨S5, rfl, J5, hb⟩; refine ⟨_, rfl, ?_⟩; have Y3 := loN (fun k_ => k_ ≠ Z2 ∧ k_ ≠ b3) J5 (fun k_ hk_ => ⟨oe L4 m0 hk_, oe m4 n0 hk_⟩) HB; replace m0 := tBb m0 hb; replace n0 := tBb n0 hb; replace HB := tHb HB hb; (try clear hb J5); obtain ⟨l5, O4, X4⟩ := Kd.N_slice Y3.out; subst X4))
 go_loopg [5, 15] k (fun kq v5 W5 w' => ∃ (V2 : Int) (a0 : Int), v5 = .int .i64 V2 ∧ W5 = .int .i64 a0 ∧ Asc (Ft.l0 kq V2 z0 (z0.length : Int) a0 Z0 D2 C1 U1 N1 L2 Q2 = some r) ∧ Asc (kq ≤ k) ∧ Asc (Kd.N k32 32 w' w.heap.size (fun k_ => k_ ≠ Z2 ∧ k_ ≠ b3) (.slice l5 z0.length O4) z0) ∧ Asc (w'.heap[Z2]? = some (.cells #[.int .i64 a0_0, .int .i64 a0_1, (.slice A0_2 l0_2.length c0_2)] 24 (0, 0))) ∧ Asc (w'.heap[b3]? = some (.cells #[.string Z0, .int .i64 D2, .int .i64 C1, (.slice N3 U1.length l3), (.slice m3 N1.length L3), .int .i64 L2, .int .i64 Q2] 32 (0, 0))) ∧ Asc (Below w.heap.size w w'))
 case atStart => exact ⟨(0), (0), fr, fr, H', ⟨Nat.le_refl _⟩, ⟨hN Y3⟩, ⟨gB m0⟩, ⟨gB n0⟩, ⟨bh HB⟩⟩
 case round =>
  clear H'
  try clear W4 C5 U4 Q4 m5 b5 S4 a5 i5 c5 V4 s5 j5 R4 P4 Y4 p5 k5 A5 D5
  obtain ⟨V2, a0, rfl, rfl, HA, M4, HO_13, m0, n0, HB⟩ := hrel
  cases gk with
  | zero => exact absurd HA.out (by simp [Ft.l0])
  | succ k1 =>
   have H := HA.out
   clear HA
   simp only [Ft.l0] at H
   by_cases k4 : a0 < (z0.length : Int)
   ·
    rw [if_pos k4] at H
    have I4 : decide (a0 < (z0.length : Int)) = true := decide_eq_true k4
    clear k4
    revert H
    refine gi (fun Q5 H => ?_)
    revert H
    refine gi (fun E5 H => ?_)
    replace H := Option.bind_eq_some_iff.mp H
    obtain ⟨Z4, u4, H⟩ := H
    try dsimp only at H
    have M5 := am_ u4
    clear u4
    by_cases N4 : Z4 = true
    ·
     subst N4
     rw [if_pos rfl] at H
     have H' := am_ H
     clear H
     have O1 : 0 ≤ (a0 : Int) := dt
     have P1 : a0 < (z0.length : Int) := dt
     obtain ⟨D4, j4, i4, Y1, i2, a4, i3, J3, S3, D1, Q1, Q3, C3, Q0, N0, P0, V0⟩ := at_T32 (Kd.N_reads' HO_13.out).2.2 a0 O1 P1
     cases a4
     obtain ⟨K4, Z1, X1, M0⟩ := Kd.N_get HO_13.out z32 a0 O1 (by first | exact P1 | exact dt | (have e_ := (Kd.N_reads' HO_13.out).1; omega))
     obtain ⟨u3, D3, k3, U3, rfl, I0, L0, A0, C0⟩ := k32_openF X1
     have u0 := M0 3 _ rfl
     rw [add_field _ _ 3 (by omega)] at u0
     replace u0 := Option.some.inj (u0.symm.trans D1)
     injection u0 with hva_ hvn_ hvc_
     rw [hva_] at L0
     rw [hvc_] at I0
     have W0 := am_ (show Kd.V k107 107 _ w.heap.size _ _ ((rd_T32 z0 a0).f1.f2) from Kd.V_mk I0 L0)
     clear hva_ hvn_ hvc_ L0 I0
     have o0 := M0 4 _ rfl
     rw [add_field _ _ 4 (by omega)] at o0
     replace o0 := Option.some.inj (o0.symm.trans Q1)
     injection o0 with hva_ hvn_ hvc_
     rw [hva_] at C0
     rw [hvc_] at A0
     have E0 := am_ (show Kd.V Kd.string 9 _ w.heap.size _ _ ((rd_T32 z0 a0).f1.f3) from Kd.V_mk A0 C0)
     clear hva_ hvn_ hvc_ C0 A0 M0 Z1
     have O0 := am_ N0
     have I3 := am_ Q0
     clear N0 Q0
     have U0 := am_ V0
     have L1 := am_ P0
     clear V0 P0
     replace O1 := eq_true O1
     replace P1 := eq_true P1
     go_wp2_with (first | ((with_reducible refine gd_ 7 ?_); refine be_ 7 #[.string (⟨#[]⟩ : ByteArray), .int .i64 0, .int .i64 0, .slice none 0 0, .slice none 0 0, .int .i64 0, .int .i64 0] 32 ?_; intro s4 hg w16 hbox hb; replace HO_13 := tNe HO_13 hg hb; replace W0 := tVe W0 hg hb; replace E0 := tVe E0 hg hb; replace O0 := tCb O0 hb; replace U0 := tCb U0 hb; have Y2 := am_ hbox; have E4 := tG HB hg; have C4 := tG HB hg; replace HB := tHb HB hb; obtain ⟨C2, X0⟩ := tN m0 hg; replace m0 := tBb m0 hb; obtain ⟨N2, Y0⟩ := tN n0 hg; replace n0 := tBb n0 hb; clear hb hbox hg; obtain ⟨_, _⟩ := n2 X0; obtain ⟨_, _⟩ := n2 Y0; obtain ⟨_, _, _, _, _, _, _, _, _, _, _, _, _, _⟩ := bx7 Y2; obtain ⟨_, _⟩ := n2 i1; obtain ⟨_, _, _, _, _, _, _, _, _, _, _, _, _, _⟩ := bx7 n0) | ((with_reducible refine gate_callee (f := 35) rfl ?_); refine gl_ (some 24) Tryz.func35 #[.slice Y1 ((rd_T32 z0 a0).f1.f3).length i2, .string Z0] ?_; (with_reducible refine (Gu.calls k1 _ _ ((rd_T32 z0 a0).f1.f3) Z0 true _ ?V1 ?a3 M5.out).mono ?_); (case V1 => repeat (first | exact ((Kd.V_reads' (hV E0)).2.2) | (with_reducible refine Kd.C_alloc ?_ _) | (with_reducible refine Kd.C_drewN ?_ _) | (with_reducible refine Kd.C_drew ?_))); (case a3 => exact L1.out); rintro e w' ⟨rfl, ⟨nd, rfl⟩⟩; refine ⟨_, rfl, ?_⟩))
     go_roundg k1
     case measure => have := M4.out; omega
     case rel => exact ⟨(wrap64 (V2 + 1)), (wrap64 (a0 + 1)), fr, fr, H', kS M4, ⟨gN HO_13⟩, ⟨gB m0⟩, ⟨gB n0⟩, ⟨bh HB⟩⟩
    replace N4 := Bool.eq_false_iff.mpr N4
    subst N4
    rw [if_neg (show ¬ (false = true) by decide)] at H
    have H' := am_ H
    clear H
    have O1 : 0 ≤ (a0 : Int) := dt
    have P1 : a0 < (z0.length : Int) := dt
    obtain ⟨D4, j4, i4, Y1, i2, a4, i3, J3, S3, D1, Q1, Q3, C3, Q0, N0, P0, V0⟩ := at_T32 (Kd.N_reads' HO_13.out).2.2 a0 O1 P1
    cases a4
    obtain ⟨K4, Z1, X1, M0⟩ := Kd.N_get HO_13.out z32 a0 O1 (by first | exact P1 | exact dt | (have e_ := (Kd.N_reads' HO_13.out).1; omega))
    obtain ⟨u3, D3, k3, U3, rfl, I0, L0, A0, C0⟩ := k32_openF X1
    have u0 := M0 3 _ rfl
    rw [add_field _ _ 3 (by omega)] at u0
    replace u0 := Option.some.inj (u0.symm.trans D1)
    injection u0 with hva_ hvn_ hvc_
    rw [hva_] at L0
    rw [hvc_] at I0
    have W0 := am_ (show Kd.V k107 107 _ w.heap.size _ _ ((rd_T32 z0 a0).f1.f2) from Kd.V_mk I0 L0)
    clear hva_ hvn_ hvc_ L0 I0
    have o0 := M0 4 _ rfl
    rw [add_field _ _ 4 (by omega)] at o0
    replace o0 := Option.some.inj (o0.symm.trans Q1)
    injection o0 with hva_ hvn_ hvc_
    rw [hva_] at C0
    rw [hvc_] at A0
    have E0 := am_ (show Kd.V Kd.string 9 _ w.heap.size _ _ ((rd_T32 z0 a0).f1.f3) from Kd.V_mk A0 C0)
    clear hva_ hvn_ hvc_ C0 A0 M0 Z1
    have O0 := am_ N0
    have I3 := am_ Q0
    clear N0 Q0
    have U0 := am_ V0
    have L1 := am_ P0
    clear V0 P0
    replace O1 := eq_true O1
    replace P1 := eq_true P1
    go_wp2_with (first | ((with_reducible refine gd_ 7 ?_); refine be_ 7 #[.string (⟨#[]⟩ : ByteArray), .int .i64 0, .int .i64 0, .slice none 0 0, .slice none 0 0, .int .i64 0, .int .i64 0] 32 ?_; intro s4 hg X5 hbox hb; replace HO_13 := tNe HO_13 hg hb; replace W0 := tVe W0 hg hb; replace E0 := tVe E0 hg hb; replace O0 := tCb O0 hb; replace U0 := tCb U0 hb; have Y2 := am_ hbox; have E4 := tG HB hg; have C4 := tG HB hg; replace HB := tHb HB hb; obtain ⟨C2, X0⟩ := tN m0 hg; replace m0 := tBb m0 hb; obtain ⟨N2, Y0⟩ := tN n0 hg; replace n0 := tBb n0 hb; clear hb hbox hg; obtain ⟨_, _⟩ := n2 X0; obtain ⟨_, _⟩ := n2 Y0; obtain ⟨_, _, _, _, _, _, _, _, _, _, _, _, _, _⟩ := bx7 Y2; obtain ⟨_, _⟩ := n2 i1; obtain ⟨_, _, _, _, _, _, _, _, _, _, _, _, _, _⟩ := bx7 n0) | ((with_reducible refine gate_callee (f := 35) rfl ?_); refine gl_ (some 24) Tryz.func35 #[.slice Y1 ((rd_T32 z0 a0).f1.f3).length i2, .string Z0] ?_; (with_reducible refine (Gu.calls k1 _ _ ((rd_T32 z0 a0).f1.f3) Z0 false _ ?V1 ?a3 M5.out).mono ?_); (case V1 => repeat (first | exact ((Kd.V_reads' (hV E0)).2.2) | (with_reducible refine Kd.C_alloc ?_ _) | (with_reducible refine Kd.C_drewN ?_ _) | (with_reducible refine Kd.C_drew ?_))); (case a3 => exact L1.out); rintro e w' ⟨rfl, ⟨nd, rfl⟩⟩; refine ⟨_, rfl, ?_⟩))
    go_roundg k1
    case measure => have := M4.out; omega
    case rel => exact ⟨(V2), (wrap64 (a0 + 1)), fr, fr, H', kS M4, ⟨gN HO_13⟩, ⟨gB m0⟩, ⟨gB n0⟩, ⟨bh HB⟩⟩
   rw [if_neg k4] at H
   have I4 : decide (a0 < (z0.length : Int)) = false := decide_eq_false k4
   clear k4
   obtain rfl := Option.some.inj H
   go_wp2
   go_ret
   exact ⟨fe, bh HB⟩

def Fy.f (k : Nat) (a0_0 : Int) (a0_1 : Int) (l0_2 : List (S32)) (a1 : Int) : Option (ByteArray × Int × Int × (List (S107)) × List ByteArray × Int × Int × Int) := (Gb.f k a0_0 a0_1 l0_2 a1).bind fun a0 => (if a0.2.2.2.2.2.2.2 = 0 then ((Ft.f k a0_0 a0_1 l0_2 a0.1 a0.2.1 a0.2.2.1 a0.2.2.2.1 a0.2.2.2.2.1 a0.2.2.2.2.2.1 a0.2.2.2.2.2.2.1).bind fun n0 => ((G7.f a0_0).bind fun m0 => (if n0 < m0 then (some ((⟨#[]⟩ : ByteArray), 0, 0, ([] : List (S107)), ([] : List ByteArray), 0, 0, 12)) else (some (a0.1, a0.2.1, a0.2.2.1, a0.2.2.2.1, a0.2.2.2.2.1, a0.2.2.2.2.2.1, a0.2.2.2.2.2.2.1, 0))))) else (some ((⟨#[]⟩ : ByteArray), 0, 0, ([] : List (S107)), ([] : List ByteArray), 0, 0, a0.2.2.2.2.2.2.2)))
def Fy.T4 : Bool × List (List Nat × List Nat) := (true, [([], []), ([], []), ([0, 1], [0, 1]), ([], []), ([3], [3]), ([4, 2], [4]), ([2, 5], [2, 5]), ([6, 5], [6])])
def Fy.B4 : List Nat := [0, 0, 3, 0, 8, 31, 63, 127]
theorem Fy.tab4 : rtab .any (opsOf Tryz.f11 4) = Fy.T4 := by kernel_rfl
theorem Fy.bits4 : waitsOk Fy.T4.2 Fy.B4 = true := by kernel_rfl
set_option maxHeartbeats 8000000 in
set_option maxRecDepth 100000 in
theorem Fy.calls (k : Nat) (a0_0 : Int) (a0_1 : Int) (E0 : Nat → Prop) (A0_2 : Option Addr) (c0_2 : Nat) (l0_2 : List (S32)) (a1 : Int) (r1 : ByteArray) (r2 : Int) (r3 : Int) (r4 : List (S107)) (r5 : List ByteArray) (r6 : Int) (r7 : Int) (r8 : Int) (w : World) (m3 : Kd.V k32 32 w w.heap.size (fun k_ => E0 k_) (.slice A0_2 l0_2.length c0_2) l0_2) (h : Fy.f k a0_0 a0_1 l0_2 a1 = some (r1, r2, r3, r4, r5, r6, r7, r8)) :
  Calls Tryz.prog 11 #[.agg #[.int .i64 a0_0, .int .i64 a0_1, .slice A0_2 l0_2.length c0_2], .int .i64 a1] w fun e w' => ∃ N3 L3 : Value, e = .returned (.tuple #[.agg #[.string r1, .int .i64 r2, .int .i64 r3, N3, L3, .int .i64 r6, .int .i64 r7], .int .i64 r8]) ∧ Kd.V k107 107 w' w.heap.size (fun k_ => (E0 k_ ∨ w.heap.size ≤ k_)) N3 r4 ∧ Kd.V Kd.string 9 w' w.heap.size (fun k_ => (E0 k_ ∨ w.heap.size ≤ k_)) L3 r5 ∧ Below w.heap.size w w' := by
 have X3 := Tryz.underlying24
 have Y3 := Tryz.underlying32
 have m0 := am_ (show Kd.V k32 32 w w.heap.size (fun k_ => (E0 k_ ∨ w.heap.size ≤ k_)) (.slice A0_2 l0_2.length c0_2) l0_2 from Kd.V_mono m3 (fun k_ hk => .inl hk))
 have HB := am_ (Below.refl w.heap.size w)
 have H : ((Gb.f k a0_0 a0_1 l0_2 a1).bind fun L0 => (if L0.2.2.2.2.2.2.2 = 0 then ((Ft.f k a0_0 a0_1 l0_2 L0.1 L0.2.1 L0.2.2.1 L0.2.2.2.1 L0.2.2.2.2.1 L0.2.2.2.2.2.1 L0.2.2.2.2.2.2.1).bind fun N1 => ((G7.f a0_0).bind fun O1 => (if N1 < O1 then (some ((⟨#[]⟩ : ByteArray), 0, 0, ([] : List (S107)), ([] : List ByteArray), 0, 0, 12)) else (some (L0.1, L0.2.1, L0.2.2.1, L0.2.2.2.1, L0.2.2.2.2.1, L0.2.2.2.2.2.1, L0.2.2.2.2.2.2.1, 0))))) else (some ((⟨#[]⟩ : ByteArray), 0, 0, ([] : List (S107)), ([] : List ByteArray), 0, 0, L0.2.2.2.2.2.2.2)))) = some (r1, r2, r3, r4, r5, r6, r7, r8) := h
 clear h
 replace H := Option.bind_eq_some_iff.mp H
 obtain ⟨⟨X0, Y0, U0, Q0, Z0, W0, V0, L1⟩, Q3, H⟩ := H
 try dsimp only at H
 have A3 := am_ Q3
 clear Q3
 by_cases c4 : L1 = 0
 ·
  rw [if_pos c4] at H
  have I3 : (L1 == 0) = true := beq_iff_eq.mpr c4
  have C3 : (L1 != 0) = false := bne_eq_false_iff_eq.mpr c4
  clear c4
  replace H := Option.bind_eq_some_iff.mp H
  obtain ⟨N1, J3, H⟩ := H
  try dsimp only at H
  have A5 := am_ J3
  clear J3
  replace H := Option.bind_eq_some_iff.mp H
  obtain ⟨O1, S3, H⟩ := H
  try dsimp only at H
  have A6 := am_ S3
  clear S3
  by_cases c7 : N1 < O1
  ·
   rw [if_pos c7] at H
   have D3 : decide (N1 < O1) = true := decide_eq_true c7
   clear c7
   simp only [Option.some.injEq, Prod.mk.injEq] at H
   obtain ⟨rfl, rfl, rfl, rfl, rfl, rfl, rfl, rfl⟩ := H
   go_enter Tryz.func11, Tryz.ntmps11
   try go_wp2_with (first | ((with_reducible refine gd_ 2 ?_); refine be_ 2 #[.int .i64 a0_0, .int .i64 a0_1, .slice A0_2 l0_2.length c0_2] 24 ?_; intro I0 hg w8 hbox hb; replace m0 := tVe m0 hg hb; have a0 := am_ hbox; have D2 := tG HB hg; have Y2 := tG HB hg; replace HB := tHb HB hb; clear hb hbox hg) | ((with_reducible refine gd_ 4 ?_); refine be_ 4 #[.string (⟨#[]⟩ : ByteArray), .int .i64 0, .int .i64 0, .slice none 0 0, .slice none 0 0, .int .i64 0, .int .i64 0] 32 ?_; intro C0 hg w9 hbox hb; replace m0 := tVe m0 hg hb; have n0 := am_ hbox; have Z2 := tG HB hg; have N2 := tG HB hg; replace HB := tHb HB hb; obtain ⟨O0, D1⟩ := tN a0 hg; replace a0 := tBb a0 hb; clear hb hbox hg; obtain ⟨_, _⟩ := n2 O0; obtain ⟨_, _, _, _, _, _⟩ := bx3 a0) | ((with_reducible refine gate_callee (f := 9) rfl ?_); refine gl_ (some 11) Tryz.func9 #[.agg #[.int .i64 a0_0, .int .i64 a0_1, .slice A0_2 l0_2.length c0_2], .int .i64 a1] ?_; (with_reducible refine (Gb.calls k a0_0 a0_1 (fun k_ => (((E0 k_ ∨ w.heap.size ≤ k_) ∧ k_ ≠ I0) ∧ k_ ≠ C0)) _ _ l0_2 a1 X0 Y0 U0 Q0 Z0 W0 V0 L1 _ ?P0 A3.out).mono ?_); (case P0 => exact m0.out); rintro e I4 ⟨l3, u3, rfl, J2, L2, hb⟩; refine ⟨_, rfl, ?_⟩; replace m0 := tVb m0 hb; have u0 := lo (fun k_ => (E0 k_ ∨ w.heap.size ≤ k_) ∧ k_ ≠ I0 ∧ k_ ≠ C0) J2 (fun k_ hk_ => ⟨Or.elim hk_ (fun hs_ => hs_.1.1) (fun hn_ => (.inr (Nat.le_trans (below_size (bh HB)) hn_))), Or.elim hk_ (fun hs_ => hs_.1.2) (fun hn_ => (gFr a0 k_ hn_)), Or.elim hk_ (fun hs_ => hs_.2) (fun hn_ => (gFr n0 k_ hn_))⟩) HB; have o0 := lo (fun k_ => (E0 k_ ∨ w.heap.size ≤ k_) ∧ k_ ≠ I0 ∧ k_ ≠ C0) L2 (fun k_ hk_ => ⟨Or.elim hk_ (fun hs_ => hs_.1.1) (fun hn_ => (.inr (Nat.le_trans (below_size (bh HB)) hn_))), Or.elim hk_ (fun hs_ => hs_.1.2) (fun hn_ => (gFr a0 k_ hn_)), Or.elim hk_ (fun hs_ => hs_.2) (fun hn_ => (gFr n0 k_ hn_))⟩) HB; replace a0 := tBb a0 hb; replace n0 := tBb n0 hb; replace HB := tHb HB hb; (try clear hb J2 L2)) | ((with_reducible refine gd_ 6 ?_); refine be_ 6 #[.string (⟨#[]⟩ : ByteArray), .int .i64 0, .int .i64 0, .slice none 0 0, .slice none 0 0, .int .i64 0, .int .i64 0] 32 ?_; intro A0 hg j4 hbox hb; replace m0 := tVe m0 hg hb; replace u0 := tVe u0 hg hb; replace o0 := tVe o0 hg hb; have z0 := am_ hbox; have Q2 := tG HB hg; have V2 := tG HB hg; replace HB := tHb HB hb; obtain ⟨C1, M0⟩ := tN a0 hg; replace a0 := tBb a0 hb; obtain ⟨i1, N0⟩ := tN n0 hg; replace n0 := tBb n0 hb; clear hb hbox hg; obtain ⟨_, _⟩ := n2 M0; obtain ⟨_, _⟩ := n2 N0; obtain ⟨_, _, _, _, _, _, _, _, _, _, _, _, _, _⟩ := bx7 z0; obtain ⟨a3, k3, rfl⟩ := Kd.V_slice u0.out; obtain ⟨b3, i3, rfl⟩ := Kd.V_slice o0.out) | ((with_reducible refine gate_store (t := 32) (p := 6) rfl ?_); refine se_ 32 6 (((((((j4.setCell ⟨A0, 0, none⟩ (.string X0)).setCell ⟨A0, 1, none⟩ (.int .i64 Y0)).setCell ⟨A0, 2, none⟩ (.int .i64 U0)).setCell ⟨A0, 3, none⟩ (.slice a3 Q0.length k3)).setCell ⟨A0, 4, none⟩ (.slice b3 Z0.length i3)).setCell ⟨A0, 5, none⟩ (.int .i64 W0)).setCell ⟨A0, 6, none⟩ (.int .i64 V0)) ?_; intro W3 hw; replace m0 := gVw (fun k_ => (E0 k_ ∨ w.heap.size ≤ k_) ∧ k_ ≠ I0 ∧ k_ ≠ C0 ∧ k_ ≠ A0) m0 hw; replace u0 := gVw (fun k_ => (E0 k_ ∨ w.heap.size ≤ k_) ∧ k_ ≠ I0 ∧ k_ ≠ C0 ∧ k_ ≠ A0) u0 hw; replace o0 := gVw (fun k_ => (E0 k_ ∨ w.heap.size ≤ k_) ∧ k_ ≠ I0 ∧ k_ ≠ C0 ∧ k_ ≠ A0) o0 hw; replace a0 := sB a0 hw; replace n0 := sB n0 hw; replace z0 := sP #[.string X0, .int .i64 Y0, .int .i64 U0, .slice a3 Q0.length k3, .slice b3 Z0.length i3, .int .i64 W0, .int .i64 V0] z0 hw; replace HB := sH HB hw; clear hw))
   replace m0 := am_ (Kd.V_drew m0.out)
   replace u0 := am_ (Kd.V_drew u0.out)
   replace o0 := am_ (Kd.V_drew o0.out)
   replace a0 := am_ (blk_drew a0.out)
   replace n0 := am_ (blk_drew n0.out)
   replace z0 := am_ (blk_drew z0.out)
   replace HB := am_ (below_drew1 HB.out)
   refine st_ 8 [] (k3_ a0 (k7_ z0 ct)) (fun hHeld => ?_); refine with_tabW Fy.tab4 Fy.bits4 (fun HT_ HW_ => ?_)
   generalize W3.drew = l4 at m0 u0 o0 a0 n0 z0 HB hHeld ⊢
   refine pu_ 3 (some 23) 8 HT_ (h := ?_)
   refine tk_ 0 (some 20) 9 HT_ HW_ hHeld (h := ?_)
   refine tk_ 1 (some 21) 11 HT_ HW_ hHeld (h := ?_)
   refine tk_ 4 (some 24) 27 HT_ HW_ hHeld (h := ?_)
   refine one_ (i := 2) (N := some 22) #[true, true, true, true, true, false, false, false] rfl rfl (one_of HT_.out (by kernel_rfl)) (by decide) (fun K hK => ?_)
   refine goes_ Tryz.func14 (by kernel_rfl) rfl #[.agg #[.int .i64 a0_0, .int .i64 a0_1, .slice A0_2 l0_2.length c0_2], .agg #[.string X0, .int .i64 Y0, .int .i64 U0, .slice a3 Q0.length k3, .slice b3 Z0.length i3, .int .i64 W0, .int .i64 V0]] (by rfl) rfl rfl (by (try simp only [List.map_toArray, List.map_cons, List.map_nil]); first | done | rfl | (simp only [List.length_drop, List.length_take]; rfl)) ?_
   with_reducible refine (Ft.calls k a0_0 a0_1 _ _ l0_2 X0 Y0 U0 _ _ Q0 _ _ Z0 W0 V0 N1 _ ?P0 ?U1 ?P1 ?X1 ?Q1 ?V1 A5.out).mono ?_
   (case P0 => repeat (first | exact (Kd.V_reads' m0.out).2.2 | (with_reducible refine Kd.C_alloc ?_ _) | (with_reducible refine Kd.C_drewN ?_ _) | (with_reducible refine Kd.C_drew ?_)))
   (case U1 => exact (Kd.V_reads' m0.out).2.1)
   (case P1 => repeat (first | exact (Kd.V_reads' u0.out).2.2 | (with_reducible refine Kd.C_alloc ?_ _) | (with_reducible refine Kd.C_drewN ?_ _) | (with_reducible refine Kd.C_drew ?_)))
   (case X1 => exact (Kd.V_reads' u0.out).2.1)
   (case Q1 => repeat (first | exact (Kd.V_reads' o0.out).2.2 | (with_reducible refine Kd.C_alloc ?_ _) | (with_reducible refine Kd.C_drewN ?_ _) | (with_reducible refine Kd.C_drew ?_)))
   (case V1 => exact (Kd.V_reads' o0.out).2.1)
   rintro e E4 ⟨rfl, hb⟩
   refine ⟨_, rfl, ?_⟩
   replace m0 := tVb m0 hb
   replace u0 := tVb u0 hb
   replace o0 := tVb o0 hb
   replace a0 := tBb a0 hb
   replace n0 := tBb n0 hb
   replace z0 := tBb z0 hb
   replace HB := tHb HB hb
   (try clear hb)
   (try clear hb2)
   (try clear hk)
   (try clear hi)
   refine hK.out _ _ (m3_ a0 (m7_ z0 ct)) (fun hHeld => ?_)
   clear hK K
   refine norm_ (a' := ?_) ?_ ?_
   rotate_left
   ·
    show Act.put _ (some 22) _ = _
    simp only [Act.put, List.setIfInBounds_toArray, List.set_cons_zero, List.set_cons_succ, i64_w, i32_w]
    rfl
   refine one_ (i := 5) (N := some 25) #[true, true, true, true, true, true, false, false] rfl rfl (one_of HT_.out (by kernel_rfl)) (by decide) (fun K hK => ?_)
   refine goes_ Tryz.func31 (by kernel_rfl) rfl #[.int .i64 a0_0] (by rfl) rfl rfl (by (try simp only [List.map_toArray, List.map_cons, List.map_nil]); first | done | rfl | (simp only [List.length_drop, List.length_take]; rfl)) ?_
   with_reducible refine (G7.calls a0_0 O1 _ A6.out).mono ?_
   rintro e w' ⟨rfl, ⟨nd, rfl⟩⟩
   refine ⟨_, rfl, ?_⟩
   refine hK.out _ _ (m3_ a0 (m7_ z0 ct)) (fun hHeld => ?_)
   clear hK K
   refine norm_ (a' := ?_) ?_ ?_
   rotate_left
   ·
    show Act.put _ (some 25) _ = _
    simp only [Act.put, List.setIfInBounds_toArray, List.set_cons_zero, List.set_cons_succ, i64_w, i32_w]
    rfl
   refine pu_ 6 (some 26) 127 HT_ (h := ?_)
   refine pu_ 7 (some 19) 255 HT_ (h := ?_)
   refine done_ (done_of HT_.out (by kernel_rfl)) ?_
   obtain ⟨_, _, _, _, _, _, _, _, _, _, _, _, _, _⟩ := bx7 n0
   try go_wp2
   refine bodyPost_ret (results_ct rfl _ _ C0 32 #[.string (⟨#[]⟩ : ByteArray), .int .i64 0, .int .i64 0, .slice none 0 0, .slice none 0 0, .int .i64 0, .int .i64 0] (0, 0) _ rfl (gP n0 rfl) Tryz.underlying32 rfl (by kernel_rfl)) rfl ?_
   exact ⟨_, _, fe, Kd.V_nil _ _ _ _ _, Kd.V_nil _ _ _ _ _, bh HB⟩
  rw [if_neg c7] at H
  have D3 : decide (N1 < O1) = false := decide_eq_false c7
  clear c7
  simp only [Option.some.injEq, Prod.mk.injEq] at H
  obtain ⟨rfl, rfl, rfl, rfl, rfl, rfl, rfl, rfl⟩ := H
  go_enter Tryz.func11, Tryz.ntmps11
  try go_wp2_with (first | ((with_reducible refine gd_ 2 ?_); refine be_ 2 #[.int .i64 a0_0, .int .i64 a0_1, .slice A0_2 l0_2.length c0_2] 24 ?_; intro I0 hg J4 hbox hb; replace m0 := tVe m0 hg hb; have a0 := am_ hbox; have D2 := tG HB hg; have Y2 := tG HB hg; replace HB := tHb HB hb; clear hb hbox hg) | ((with_reducible refine gd_ 4 ?_); refine be_ 4 #[.string (⟨#[]⟩ : ByteArray), .int .i64 0, .int .i64 0, .slice none 0 0, .slice none 0 0, .int .i64 0, .int .i64 0] 32 ?_; intro C0 hg D4 hbox hb; replace m0 := tVe m0 hg hb; have n0 := am_ hbox; have Z2 := tG HB hg; have N2 := tG HB hg; replace HB := tHb HB hb; obtain ⟨O0, D1⟩ := tN a0 hg; replace a0 := tBb a0 hb; clear hb hbox hg; obtain ⟨_, _⟩ := n2 O0; obtain ⟨_, _, _, _, _, _⟩ := bx3 a0) | ((with_reducible refine gate_callee (f := 9) rfl ?_); refine gl_ (some 11) Tryz.func9 #[.agg #[.int .i64 a0_0, .int .i64 a0_1, .slice A0_2 l0_2.length c0_2], .int .i64 a1] ?_; (with_reducible refine (Gb.calls k a0_0 a0_1 (fun k_ => (((E0 k_ ∨ w.heap.size ≤ k_) ∧ k_ ≠ I0) ∧ k_ ≠ C0)) _ _ l0_2 a1 X0 Y0 U0 Q0 Z0 W0 V0 L1 _ ?P0 A3.out).mono ?_); (case P0 => exact m0.out); rintro e m4 ⟨l3, u3, rfl, J2, L2, hb⟩; refine ⟨_, rfl, ?_⟩; replace m0 := tVb m0 hb; have u0 := lo (fun k_ => (E0 k_ ∨ w.heap.size ≤ k_) ∧ k_ ≠ I0 ∧ k_ ≠ C0) J2 (fun k_ hk_ => ⟨Or.elim hk_ (fun hs_ => hs_.1.1) (fun hn_ => (.inr (Nat.le_trans (below_size (bh HB)) hn_))), Or.elim hk_ (fun hs_ => hs_.1.2) (fun hn_ => (gFr a0 k_ hn_)), Or.elim hk_ (fun hs_ => hs_.2) (fun hn_ => (gFr n0 k_ hn_))⟩) HB; have o0 := lo (fun k_ => (E0 k_ ∨ w.heap.size ≤ k_) ∧ k_ ≠ I0 ∧ k_ ≠ C0) L2 (fun k_ hk_ => ⟨Or.elim hk_ (fun hs_ => hs_.1.1) (fun hn_ => (.inr (Nat.le_trans (below_size (bh HB)) hn_))), Or.elim hk_ (fun hs_ => hs_.1.2) (fun hn_ => (gFr a0 k_ hn_)), Or.elim hk_ (fun hs_ => hs_.2) (fun hn_ => (gFr n0 k_ hn_))⟩) HB; replace a0 := tBb a0 hb; replace n0 := tBb n0 hb; replace HB := tHb HB hb; (try clear hb J2 L2)) | ((with_reducible refine gd_ 6 ?_); refine be_ 6 #[.string (⟨#[]⟩ : ByteArray), .int .i64 0, .int .i64 0, .slice none 0 0, .slice none 0 0, .int .i64 0, .int .i64 0] 32 ?_; intro A0 hg a4 hbox hb; replace m0 := tVe m0 hg hb; replace u0 := tVe u0 hg hb; replace o0 := tVe o0 hg hb; have z0 := am_ hbox; have Q2 := tG HB hg; have V2 := tG HB hg; replace HB := tHb HB hb; obtain ⟨C1, M0⟩ := tN a0 hg; replace a0 := tBb a0 hb; obtain ⟨i1, N0⟩ := tN n0 hg; replace n0 := tBb n0 hb; clear hb hbox hg; obtain ⟨_, _⟩ := n2 M0; obtain ⟨_, _⟩ := n2 N0; obtain ⟨_, _, _, _, _, _, _, _, _, _, _, _, _, _⟩ := bx7 z0; obtain ⟨C2, Z1, rfl⟩ := Kd.V_slice u0.out; obtain ⟨i2, Y1, rfl⟩ := Kd.V_slice o0.out) | ((with_reducible refine gate_store (t := 32) (p := 6) rfl ?_); refine se_ 32 6 (((((((a4.setCell ⟨A0, 0, none⟩ (.string X0)).setCell ⟨A0, 1, none⟩ (.int .i64 Y0)).setCell ⟨A0, 2, none⟩ (.int .i64 U0)).setCell ⟨A0, 3, none⟩ (.slice C2 Q0.length Z1)).setCell ⟨A0, 4, none⟩ (.slice i2 Z0.length Y1)).setCell ⟨A0, 5, none⟩ (.int .i64 W0)).setCell ⟨A0, 6, none⟩ (.int .i64 V0)) ?_; intro i4 hw; replace m0 := gVw (fun k_ => (E0 k_ ∨ w.heap.size ≤ k_) ∧ k_ ≠ I0 ∧ k_ ≠ C0 ∧ k_ ≠ A0) m0 hw; replace u0 := gVw (fun k_ => (E0 k_ ∨ w.heap.size ≤ k_) ∧ k_ ≠ I0 ∧ k_ ≠ C0 ∧ k_ ≠ A0) u0 hw; replace o0 := gVw (fun k_ => (E0 k_ ∨ w.heap.size ≤ k_) ∧ k_ ≠ I0 ∧ k_ ≠ C0 ∧ k_ ≠ A0) o0 hw; replace a0 := sB a0 hw; replace n0 := sB n0 hw; replace z0 := sP #[.string X0, .int .i64 Y0, .int .i64 U0, .slice C2 Q0.length Z1, .slice i2 Z0.length Y1, .int .i64 W0, .int .i64 V0] z0 hw; replace HB := sH HB hw; clear hw))
  replace m0 := am_ (Kd.V_drew m0.out)
  replace u0 := am_ (Kd.V_drew u0.out)
  replace o0 := am_ (Kd.V_drew o0.out)
  replace a0 := am_ (blk_drew a0.out)
  replace n0 := am_ (blk_drew n0.out)
  replace z0 := am_ (blk_drew z0.out)
  replace HB := am_ (below_drew1 HB.out)
  refine st_ 8 [] (k3_ a0 (k7_ z0 ct)) (fun hHeld => ?_); refine with_tabW Fy.tab4 Fy.bits4 (fun HT_ HW_ => ?_)
  generalize i4.drew = s4 at m0 u0 o0 a0 n0 z0 HB hHeld ⊢
  refine pu_ 3 (some 23) 8 HT_ (h := ?_)
  refine tk_ 0 (some 20) 9 HT_ HW_ hHeld (h := ?_)
  refine tk_ 1 (some 21) 11 HT_ HW_ hHeld (h := ?_)
  refine tk_ 4 (some 24) 27 HT_ HW_ hHeld (h := ?_)
  refine one_ (i := 2) (N := some 22) #[true, true, true, true, true, false, false, false] rfl rfl (one_of HT_.out (by kernel_rfl)) (by decide) (fun K hK => ?_)
  refine goes_ Tryz.func14 (by kernel_rfl) rfl #[.agg #[.int .i64 a0_0, .int .i64 a0_1, .slice A0_2 l0_2.length c0_2], .agg #[.string X0, .int .i64 Y0, .int .i64 U0, .slice C2 Q0.length Z1, .slice i2 Z0.length Y1, .int .i64 W0, .int .i64 V0]] (by rfl) rfl rfl (by (try simp only [List.map_toArray, List.map_cons, List.map_nil]); first | done | rfl | (simp only [List.length_drop, List.length_take]; rfl)) ?_
  with_reducible refine (Ft.calls k a0_0 a0_1 _ _ l0_2 X0 Y0 U0 _ _ Q0 _ _ Z0 W0 V0 N1 _ ?P0 ?U1 ?P1 ?X1 ?Q1 ?V1 A5.out).mono ?_
  (case P0 => repeat (first | exact (Kd.V_reads' m0.out).2.2 | (with_reducible refine Kd.C_alloc ?_ _) | (with_reducible refine Kd.C_drewN ?_ _) | (with_reducible refine Kd.C_drew ?_)))
  (case U1 => exact (Kd.V_reads' m0.out).2.1)
  (case P1 => repeat (first | exact (Kd.V_reads' u0.out).2.2 | (with_reducible refine Kd.C_alloc ?_ _) | (with_reducible refine Kd.C_drewN ?_ _) | (with_reducible refine Kd.C_drew ?_)))
  (case X1 => exact (Kd.V_reads' u0.out).2.1)
  (case Q1 => repeat (first | exact (Kd.V_reads' o0.out).2.2 | (with_reducible refine Kd.C_alloc ?_ _) | (with_reducible refine Kd.C_drewN ?_ _) | (with_reducible refine Kd.C_drew ?_)))
  (case V1 => exact (Kd.V_reads' o0.out).2.1)
  rintro e L4 ⟨rfl, hb⟩
  refine ⟨_, rfl, ?_⟩
  replace m0 := tVb m0 hb
  replace u0 := tVb u0 hb
  replace o0 := tVb o0 hb
  replace a0 := tBb a0 hb
  replace n0 := tBb n0 hb
  replace z0 := tBb z0 hb
  replace HB := tHb HB hb
  (try clear hb)
  (try clear hb2)
  (try clear hk)
  (try clear hi)
  refine hK.out _ _ (m3_ a0 (m7_ z0 ct)) (fun hHeld => ?_)
  clear hK K
  refine norm_ (a' := ?_) ?_ ?_
  rotate_left
  ·
   show Act.put _ (some 22) _ = _
   simp only [Act.put, List.setIfInBounds_toArray, List.set_cons_zero, List.set_cons_succ, i64_w, i32_w]
   rfl
  refine one_ (i := 5) (N := some 25) #[true, true, true, true, true, true, false, false] rfl rfl (one_of HT_.out (by kernel_rfl)) (by decide) (fun K hK => ?_)
  refine goes_ Tryz.func31 (by kernel_rfl) rfl #[.int .i64 a0_0] (by rfl) rfl rfl (by (try simp only [List.map_toArray, List.map_cons, List.map_nil]); first | done | rfl | (simp only [List.length_drop, List.length_take]; rfl)) ?_
  with_reducible refine (G7.calls a0_0 O1 _ A6.out).mono ?_
  rintro e w' ⟨rfl, ⟨nd, rfl⟩⟩
  refine ⟨_, rfl, ?_⟩
  refine hK.out _ _ (m3_ a0 (m7_ z0 ct)) (fun hHeld => ?_)
  clear hK K
  refine norm_ (a' := ?_) ?_ ?_
  rotate_left
  ·
   show Act.put _ (some 25) _ = _
   simp only [Act.put, List.setIfInBounds_toArray, List.set_cons_zero, List.set_cons_succ, i64_w, i32_w]
   rfl
  refine pu_ 6 (some 26) 127 HT_ (h := ?_)
  refine pu_ 7 (some 19) 255 HT_ (h := ?_)
  refine done_ (done_of HT_.out (by kernel_rfl)) ?_
  obtain ⟨_, _, _, _, _, _, _, _, _, _, _, _, _, _⟩ := bx7 z0
  obtain ⟨_, _, _, _, _, _, _, _, _, _, _, _, _, _⟩ := bx7 n0
  try go_wp2
  refine bodyPost_ret (results_ct rfl _ _ C0 32 #[.string X0, .int .i64 Y0, .int .i64 U0, .slice C2 Q0.length Z1, .slice i2 Z0.length Y1, .int .i64 W0, .int .i64 V0] (0, 0) _ rfl (gP n0 rfl) Tryz.underlying32 rfl (by kernel_rfl)) rfl ?_
  exact ⟨_, _, fe, gV u0, gV o0, bh HB⟩
 rw [if_neg c4] at H
 have I3 : (L1 == 0) = false := beq_eq_false_iff_ne.mpr c4
 have C3 : (L1 != 0) = true := bne_iff_ne.mpr c4
 simp only [Option.some.injEq, Prod.mk.injEq] at H
 obtain ⟨rfl, rfl, rfl, rfl, rfl, rfl, rfl, rfl⟩ := H
 go_enter Tryz.func11, Tryz.ntmps11
 go_wp2_with (first | ((with_reducible refine gd_ 2 ?_); refine be_ 2 #[.int .i64 a0_0, .int .i64 a0_1, .slice A0_2 l0_2.length c0_2] 24 ?_; intro I0 hg C4 hbox hb; replace m0 := tVe m0 hg hb; have a0 := am_ hbox; have D2 := tG HB hg; have Y2 := tG HB hg; replace HB := tHb HB hb; clear hb hbox hg) | ((with_reducible refine gd_ 4 ?_); refine be_ 4 #[.string (⟨#[]⟩ : ByteArray), .int .i64 0, .int .i64 0, .slice none 0 0, .slice none 0 0, .int .i64 0, .int .i64 0] 32 ?_; intro C0 hg M4 hbox hb; replace m0 := tVe m0 hg hb; have n0 := am_ hbox; have Z2 := tG HB hg; have N2 := tG HB hg; replace HB := tHb HB hb; obtain ⟨O0, D1⟩ := tN a0 hg; replace a0 := tBb a0 hb; clear hb hbox hg; obtain ⟨_, _⟩ := n2 O0; obtain ⟨_, _, _, _, _, _⟩ := bx3 a0) | ((with_reducible refine gate_callee (f := 9) rfl ?_); refine gl_ (some 11) Tryz.func9 #[.agg #[.int .i64 a0_0, .int .i64 a0_1, .slice A0_2 l0_2.length c0_2], .int .i64 a1] ?_; (with_reducible refine (Gb.calls k a0_0 a0_1 (fun k_ => (((E0 k_ ∨ w.heap.size ≤ k_) ∧ k_ ≠ I0) ∧ k_ ≠ C0)) _ _ l0_2 a1 X0 Y0 U0 Q0 Z0 W0 V0 L1 _ ?P0 A3.out).mono ?_); (case P0 => exact m0.out); rintro e u4 ⟨l3, u3, rfl, J2, L2, hb⟩; refine ⟨_, rfl, ?_⟩; replace m0 := tVb m0 hb; have u0 := lo (fun k_ => (E0 k_ ∨ w.heap.size ≤ k_) ∧ k_ ≠ I0 ∧ k_ ≠ C0) J2 (fun k_ hk_ => ⟨Or.elim hk_ (fun hs_ => hs_.1.1) (fun hn_ => (.inr (Nat.le_trans (below_size (bh HB)) hn_))), Or.elim hk_ (fun hs_ => hs_.1.2) (fun hn_ => (gFr a0 k_ hn_)), Or.elim hk_ (fun hs_ => hs_.2) (fun hn_ => (gFr n0 k_ hn_))⟩) HB; have o0 := lo (fun k_ => (E0 k_ ∨ w.heap.size ≤ k_) ∧ k_ ≠ I0 ∧ k_ ≠ C0) L2 (fun k_ hk_ => ⟨Or.elim hk_ (fun hs_ => hs_.1.1) (fun hn_ => (.inr (Nat.le_trans (below_size (bh HB)) hn_))), Or.elim hk_ (fun hs_ => hs_.1.2) (fun hn_ => (gFr a0 k_ hn_)), Or.elim hk_ (fun hs_ => hs_.2) (fun hn_ => (gFr n0 k_ hn_))⟩) HB; replace a0 := tBb a0 hb; replace n0 := tBb n0 hb; replace HB := tHb HB hb; (try clear hb J2 L2)) | ((with_reducible refine gd_ 6 ?_); refine be_ 6 #[.string (⟨#[]⟩ : ByteArray), .int .i64 0, .int .i64 0, .slice none 0 0, .slice none 0 0, .int .i64 0, .int .i64 0] 32 ?_; intro A0 hg K4 hbox hb; replace m0 := tVe m0 hg hb; replace u0 := tVe u0 hg hb; replace o0 := tVe o0 hg hb; have z0 := am_ hbox; have Q2 := tG HB hg; have V2 := tG HB hg; replace HB := tHb HB hb; obtain ⟨C1, M0⟩ := tN a0 hg; replace a0 := tBb a0 hb; obtain ⟨i1, N0⟩ := tN n0 hg; replace n0 := tBb n0 hb; clear hb hbox hg; obtain ⟨_, _⟩ := n2 M0; obtain ⟨_, _⟩ := n2 N0; obtain ⟨_, _, _, _, _, _, _, _, _, _, _, _, _, _⟩ := bx7 z0; obtain ⟨U3, k4, rfl⟩ := Kd.V_slice u0.out; obtain ⟨V3, Z3, rfl⟩ := Kd.V_slice o0.out; obtain ⟨_, _, _, _, _, _, _, _, _, _, _, _, _, _⟩ := bx7 n0))
 refine bodyPost_ret (results_ct rfl _ _ C0 32 #[.string (⟨#[]⟩ : ByteArray), .int .i64 0, .int .i64 0, .slice none 0 0, .slice none 0 0, .int .i64 0, .int .i64 0] (0, 0) _ rfl (gP n0 rfl) Tryz.underlying32 rfl (by kernel_rfl)) rfl ?_
 exact ⟨_, _, fe, Kd.V_nil _ _ _ _ _, Kd.V_nil _ _ _ _ _, bh HB⟩

def Gz.f (a0 : Int) : Option (Int) := if a0 < 1 then (some 0) else (some (wrap64 ((wrap64 (Int.tdiv (wrap64 (a0 - 1)) 3)) + 1)))
set_option maxHeartbeats 8000000 in
set_option maxRecDepth 100000 in
theorem Gz.calls (a0 : Int) (r : Int) (w : World) (h : Gz.f a0 = some r) :
  Calls Tryz.prog 37 #[.int .i64 a0] w fun e w' => e = .returned (.int .i64 r) ∧ Drawn0 w w' := by
 have H : (if a0 < 1 then (some 0) else (some (wrap64 ((wrap64 (Int.tdiv (wrap64 (a0 - 1)) 3)) + 1)))) = some r := h
 clear h
 by_cases c2 : a0 < 1
 ·
  rw [if_pos c2] at H
  have m0 : decide (a0 < 1) = true := decide_eq_true c2
  clear c2
  obtain rfl := Option.some.inj H
  go_enter Tryz.func37, Tryz.ntmps37
  go_wp2
  go_ret
  exact ⟨fr, by repeat (first | exact Drawn0.refl _ | apply Drawn0.step)⟩
 rw [if_neg c2] at H
 have m0 : decide (a0 < 1) = false := decide_eq_false c2
 clear c2
 obtain rfl := Option.some.inj H
 go_enter Tryz.func37, Tryz.ntmps37
 go_wp2
 go_ret
 exact ⟨fr, by repeat (first | exact Drawn0.refl _ | apply Drawn0.step)⟩

def Fs.l0 : Nat → Int → List (S32) → Int → Int → Option (Int)
 | 0, _, _, _, _ => none
 | k + 1, x3, x7, x8, x9 => if x9 < x8 then (if 0 ≤ x9 then (if x9 < (x7.length : Int) then ((Gz.f ((rd_T32 x7 x9).f1.f1)).bind fun a0 => (Fs.l0 k (mx x3 a0) x7 x8 (wrap64 (x9 + 1)))) else (none)) else (none)) else (some x3)
def Fs.f (k : Nat) (a0_0 : Int) (a0_1 : Int) (l0_2 : List (S32)) : Option (Int) := Fs.l0 k 0 l0_2 (l0_2.length : Int) 0
set_option maxHeartbeats 8000000 in
set_option maxRecDepth 100000 in
theorem Fs.calls (k : Nat) (a0_0 : Int) (a0_1 : Int) (A0_2 : Option Addr) (c0_2 : Nat) (l0_2 : List (S32)) (r : Int) (w : World) (hr0_2 : Kd.C k32 w A0_2 l0_2.length l0_2) (hc0_2 : l0_2.length ≤ c0_2) (h : Fs.f k a0_0 a0_1 l0_2 = some r) :
  Calls Tryz.prog 16 #[.agg #[.int .i64 a0_0, .int .i64 a0_1, .slice A0_2 l0_2.length c0_2]] w fun e w' => e = .returned (.int .i64 r) ∧ Below w.heap.size w w' := by
 have D3 := Tryz.underlying24
 have m3 := Tryz.underlying32
 have Z0 := am_ hr0_2
 have N2 := am_ hc0_2
 clear hr0_2 hc0_2
 have HB := am_ (Below.refl w.heap.size w)
 have H : (Fs.l0 k 0 l0_2 (l0_2.length : Int) 0) = some r := h
 clear h
 have H' := am_ H
 clear H
 go_enter Tryz.func16, Tryz.ntmps16
 go_wp2_with (first | ((with_reducible refine gd_ 1 ?_); refine be_ 1 #[.int .i64 a0_0, .int .i64 a0_1, .slice A0_2 l0_2.length c0_2] 24 ?_; intro Y0 hg w2 hbox hb; have m0 := am_ hbox; have Z2 := tG HB hg; have V2 := tG HB hg; replace HB := tHb HB hb; clear hb hbox hg; obtain ⟨Q1, O1, L2, Z1, J2, Y1⟩ := bx3 m0))
 go_loopg [3, 9] k (fun kq v3 v9 w' => ∃ (P0 : Int) (a0 : Int), v3 = .int .i64 P0 ∧ v9 = .int .i64 a0 ∧ Asc (Fs.l0 kq P0 l0_2 (l0_2.length : Int) a0 = some r) ∧ Asc (kq ≤ k) ∧ Asc (w'.heap[Y0]? = some (.cells #[.int .i64 a0_0, .int .i64 a0_1, (.slice A0_2 l0_2.length c0_2)] 24 (0, 0))) ∧ Asc (Below w.heap.size w w'))
 case atStart => exact ⟨(0), (0), fr, fr, H', ⟨Nat.le_refl _⟩, ⟨gB m0⟩, ⟨bh HB⟩⟩
 case round =>
  clear H'
  try clear Q1 O1 L2 Z1 J2 Y1
  obtain ⟨P0, a0, rfl, rfl, HA, Y2, m0, HB⟩ := hrel
  cases gk with
  | zero => exact absurd HA.out (by simp [Fs.l0])
  | succ k1 =>
   have H := HA.out
   clear HA
   simp only [Fs.l0] at H
   by_cases c4 : a0 < (l0_2.length : Int)
   ·
    rw [if_pos c4] at H
    have C2 : decide (a0 < (l0_2.length : Int)) = true := decide_eq_true c4
    clear c4
    revert H
    refine gi (fun u3 H => ?_)
    revert H
    refine gi (fun C3 H => ?_)
    replace H := Option.bind_eq_some_iff.mp H
    obtain ⟨U0, a3, H⟩ := H
    try dsimp only at H
    have A7 := am_ a3
    clear a3
    obtain ⟨i2, Q0⟩ : ∃ j_ : Int, (mx P0 U0) = j_ := ⟨_, rfl⟩
    replace H : (Fs.l0 k1 i2 l0_2 (l0_2.length : Int) (wrap64 (a0 + 1))) = some r := by first | (rw [Q0] at H; exact H) | (simp only [Q0] at H ⊢; exact H)
    (try rw [Q0] at A7)
    have i3 : (if P0 < U0 then U0 else P0) = i2 := Q0
    have H' := am_ H
    clear H
    have W0 : 0 ≤ (a0 : Int) := dt
    have V0 : a0 < (l0_2.length : Int) := dt
    obtain ⟨Q2, X1, D2, V1, U1, P1, L0, A0, z0, o0, C0, u0, N0, n0, I0, E0, M0⟩ := at_T32 Z0.out a0 W0 V0
    cases P1
    replace L0 := ce HB L0
    replace A0 := ce HB A0
    replace z0 := ce HB z0
    replace o0 := ce HB o0
    replace C0 := ce HB C0
    replace u0 := ce HB u0
    replace N0 := ce HB N0
    have N1 := am_ I0
    have D1 := am_ n0
    clear I0 n0
    have L1 := am_ M0
    have C1 := am_ E0
    clear M0 E0
    replace W0 := eq_true W0
    replace V0 := eq_true V0
    go_wp2_with (first | ((with_reducible refine gd_ 5 ?_); refine be_ 5 #[.string (⟨#[]⟩ : ByteArray), .int .i64 0, .int .i64 0, .slice none 0 0, .slice none 0 0, .int .i64 0, .int .i64 0] 32 ?_; intro b3 hg w9 hbox hb; have i1 := am_ hbox; have k3 := tG HB hg; have l3 := tG HB hg; replace HB := tHb HB hb; obtain ⟨X0, O0⟩ := tN m0 hg; replace m0 := tBb m0 hb; clear hb hbox hg; obtain ⟨_, _⟩ := n2 O0; obtain ⟨_, _, _, _, _, _, _, _, _, _, _, _, _, _⟩ := bx7 i1) | ((with_reducible refine gate_callee (f := 37) rfl ?_); refine gl_ (some 17) Tryz.func37 #[.int .i64 ((rd_T32 l0_2 a0).f1.f1)] ?_; (with_reducible refine (Gz.calls ((rd_T32 l0_2 a0).f1.f1) U0 _ A7.out).mono ?_); rintro e w' ⟨rfl, ⟨nd, rfl⟩⟩; refine ⟨_, rfl, ?_⟩))
    go_roundg k1
    case measure => have := Y2.out; omega
    case rel => exact ⟨(i2), (wrap64 (a0 + 1)), (by first | rfl | (simp; done) | (simp only [← Q0] <;> (first | rfl | simp)) | (simp [*]; done)), fr, H', kS Y2, ⟨gB m0⟩, ⟨bh HB⟩⟩
   rw [if_neg c4] at H
   have C2 : decide (a0 < (l0_2.length : Int)) = false := decide_eq_false c4
   clear c4
   obtain rfl := Option.some.inj H
   go_wp2
   go_ret
   exact ⟨fe, bh HB⟩

end Go.Proofs.YtopijobdblfhoaaGreat.PTuskAsks
