-- written by a program of this session (pp.py), out of the kit's print and this session's contracts
import Derived.Test.YtopijobdblfhoaaGreatPTuskAsksx0
import Derived.Test.YtopijobdblfhoaaGreatPTuskAsksx1
import Derived.Test.YtopijobdblfhoaaGreatVTuskAsksPi
namespace Go.Proofs.YtopijobdblfhoaaGreat.PTuskAsks
open Go.RowKit Go.Proofs.YtopijobdblfhoaaGreatW.PrintWords Go.Proofs.YtopijobdblfhoaaGreatW.PrintLast Go.Proofs.YtopijobdblfhoaaGreatW.PrintMore
set_option linter.unusedVariables false
set_option linter.unusedSimpArgs false

attribute [local go_sem high] eqA28
def Fp.l0 : Nat → List ByteArray → List ByteArray → Int → Option (Bool)
 | 0, _, _, _ => none
 | k + 1, x0, x1, x5 => if x5 < (x0.length : Int) then (if 0 ≤ x5 then (if x5 < (x1.length : Int) then (if (rdOf ByteArray.empty x0 x5).toList = (rdOf ByteArray.empty x1 x5).toList then (Fp.l0 k x0 x1 (wrap64 (x5 + 1))) else (some false)) else (none)) else (none)) else (some true)
def Fp.f (k : Nat) (l0 : List ByteArray) (l1 : List ByteArray) : Option (Bool) := if (l0.length : Int) = (l1.length : Int) then (Fp.l0 k l0 l1 0) else (some false)
set_option maxHeartbeats 8000000 in
set_option maxRecDepth 100000 in
theorem Fp.calls (k : Nat) (A0 : Option Addr) (c0 : Nat) (l0 : List ByteArray) (A1 : Option Addr) (c1 : Nat) (l1 : List ByteArray) (r : Bool) (w : World) (Y0 : Kd.C Kd.string w A0 l0.length l0) (C1 : l0.length ≤ c0) (D1 : Kd.C Kd.string w A1 l1.length l1) (W0 : l1.length ≤ c1) (h : Fp.f k l0 l1 = some r) :
  Calls Tryz.prog 58 #[.slice A0 l0.length c0, .slice A1 l1.length c1] w fun e w' => e = .returned (.bool r) ∧ Drawn0 w w' := by
 have i1 := am_ Y0
 have O1 := am_ C1
 clear Y0 C1
 have X0 := am_ D1
 have P1 := am_ W0
 clear D1 W0
 have H : (if (l0.length : Int) = (l1.length : Int) then (Fp.l0 k l0 l1 0) else (some false)) = some r := h
 clear h
 by_cases c3 : (l0.length : Int) = (l1.length : Int)
 ·
  rw [if_pos c3] at H
  have O0 : ((l0.length : Int) == (l1.length : Int)) = true := beq_iff_eq.mpr c3
  have M0 : ((l0.length : Int) != (l1.length : Int)) = false := bne_eq_false_iff_eq.mpr c3
  have N0 : (l0.length == l1.length) = true := by first | simpa using c3 | (simp at c3 ⊢; omega)
  clear c3
  have H' := am_ H
  clear H
  go_enter Tryz.func58, Tryz.ntmps58
  go_wp2
  repeat (go_quiet (fail); try go_wp2)
  go_loopg [5] k (fun kq v5 w' => ∃ (a0 : Int), v5 = .int .i64 a0 ∧ Asc (Fp.l0 kq l0 l1 a0 = some r) ∧ Asc (kq ≤ k) ∧ Drawn0 w w')
  case atStart => exact ⟨(0), fr, H', ⟨Nat.le_refl _⟩, by repeat (first | exact Drawn0.refl _ | apply Drawn0.step)⟩
  case round =>
   clear H'
   try clear O0 M0 N0
   obtain ⟨a0, rfl, HA, Z0, ⟨m1, rfl⟩⟩ := hrel
   cases gk with
   | zero => exact absurd HA.out (by simp [Fp.l0])
   | succ k1 =>
    have H := HA.out
    clear HA
    simp only [Fp.l0] at H
    by_cases c4 : a0 < (l0.length : Int)
    ·
     rw [if_pos c4] at H
     have V0 : decide (a0 < (l0.length : Int)) = true := decide_eq_true c4
     clear c4
     revert H
     refine gi (fun L1 H => ?_)
     revert H
     refine gi (fun N1 H => ?_)
     by_cases c7 : (rdOf ByteArray.empty l0 a0).toList = (rdOf ByteArray.empty l1 a0).toList
     ·
      rw [if_pos c7] at H
      have Q0 : ((rdOf ByteArray.empty l0 a0).toList == (rdOf ByteArray.empty l1 a0).toList) = true := beq_iff_eq.mpr c7
      have U0 : ((rdOf ByteArray.empty l0 a0).toList != (rdOf ByteArray.empty l1 a0).toList) = false := bne_eq_false_iff_eq.mpr c7
      clear c7
      have H' := am_ H
      clear H
      have m0 : 0 ≤ (a0 : Int) := dt
      have n0 : a0 < (l0.length : Int) := dt
      obtain ⟨P0, I0, z0⟩ := Kd.at_string i1.out a0 m0 n0
      cases I0
      replace m0 := eq_true m0
      replace n0 := eq_true n0
      have o0 : 0 ≤ (a0 : Int) := dt
      have u0 : a0 < (l1.length : Int) := dt
      obtain ⟨L0, E0, C0⟩ := Kd.at_string X0.out a0 o0 u0
      cases E0
      replace o0 := eq_true o0
      replace u0 := eq_true u0
      go_wp2
      repeat (go_quiet (fail); try go_wp2)
      go_roundg k1
      case measure => have := Z0.out; omega
      case rel => exact ⟨(wrap64 (a0 + 1)), fr, H', kS Z0, by repeat (first | exact Drawn0.refl _ | apply Drawn0.step)⟩
     rw [if_neg c7] at H
     have Q0 : ((rdOf ByteArray.empty l0 a0).toList == (rdOf ByteArray.empty l1 a0).toList) = false := beq_eq_false_iff_ne.mpr c7
     have U0 : ((rdOf ByteArray.empty l0 a0).toList != (rdOf ByteArray.empty l1 a0).toList) = true := bne_iff_ne.mpr c7
     obtain rfl := Option.some.inj H
     have m0 : 0 ≤ (a0 : Int) := dt
     have n0 : a0 < (l0.length : Int) := dt
     obtain ⟨P0, I0, z0⟩ := Kd.at_string i1.out a0 m0 n0
     cases I0
     replace m0 := eq_true m0
     replace n0 := eq_true n0
     have o0 : 0 ≤ (a0 : Int) := dt
     have u0 : a0 < (l1.length : Int) := dt
     obtain ⟨L0, E0, C0⟩ := Kd.at_string X0.out a0 o0 u0
     cases E0
     replace o0 := eq_true o0
     replace u0 := eq_true u0
     go_wp2
     repeat (go_quiet (fail); try go_wp2)
     go_ret
     exact ⟨fr, by repeat (first | exact Drawn0.refl _ | apply Drawn0.step)⟩
    rw [if_neg c4] at H
    have V0 : decide (a0 < (l0.length : Int)) = false := decide_eq_false c4
    clear c4
    obtain rfl := Option.some.inj H
    go_wp2
    repeat (go_quiet (fail); try go_wp2)
    go_ret
    exact ⟨fr, by repeat (first | exact Drawn0.refl _ | apply Drawn0.step)⟩
 rw [if_neg c3] at H
 have O0 : ((l0.length : Int) == (l1.length : Int)) = false := beq_eq_false_iff_ne.mpr c3
 have M0 : ((l0.length : Int) != (l1.length : Int)) = true := bne_iff_ne.mpr c3
 have N0 : (l0.length == l1.length) = false := by first | simpa using c3 | (simp at c3 ⊢; omega)
 obtain rfl := Option.some.inj H
 go_enter Tryz.func58, Tryz.ntmps58
 go_wp2
 repeat (go_quiet (fail); try go_wp2)
 go_ret
 exact ⟨fr, by repeat (first | exact Drawn0.refl _ | apply Drawn0.step)⟩

def Gp.f (k : Nat) (a0_0 : Int) (a0_1 : Int) (l0_2 : List ByteArray) (n0 : Int) (o0 : Int) (m0 : List ByteArray) : Option (Bool) := (Fp.f k l0_2 m0).bind fun a0 => (if a0 = true then (if a0_0 = n0 then (some (a0_1 == o0)) else (some false)) else (some false))
set_option maxHeartbeats 8000000 in
set_option maxRecDepth 100000 in
theorem Gp.calls (k : Nat) (a0_0 : Int) (a0_1 : Int) (A0_2 : Option Addr) (c0_2 : Nat) (l0_2 : List ByteArray) (o0 : Int) (N0 : Int) (E0 : Option Addr) (I0 : Nat) (n0 : List ByteArray) (r : Bool) (w : World) (hr0_2 : Kd.C Kd.string w A0_2 l0_2.length l0_2) (hc0_2 : l0_2.length ≤ c0_2) (D1 : Kd.C Kd.string w E0 n0.length n0) (V0 : n0.length ≤ I0) (h : Gp.f k a0_0 a0_1 l0_2 o0 N0 n0 = some r) :
  Calls Tryz.prog 81 #[.agg #[.int .i64 a0_0, .int .i64 a0_1, .slice A0_2 l0_2.length c0_2], .agg #[.int .i64 o0, .int .i64 N0, .slice E0 n0.length I0]] w fun e w' => e = .returned (.bool r) ∧ Below w.heap.size w w' := by
 have P1 := Tryz.underlying107
 have U0 := am_ hr0_2
 have O0 := am_ hc0_2
 clear hr0_2 hc0_2
 have P0 := am_ D1
 have Q0 := am_ V0
 clear D1 V0
 have HB := am_ (Below.refl w.heap.size w)
 have H : ((Fp.f k l0_2 n0).bind fun L1 => (if L1 = true then (if a0_0 = o0 then (some (a0_1 == N0)) else (some false)) else (some false))) = some r := h
 clear h
 replace H := Option.bind_eq_some_iff.mp H
 obtain ⟨L1, Q1, H⟩ := H
 try dsimp only at H
 have A3 := am_ Q1
 clear Q1
 by_cases c4 : L1 = true
 ·
  subst c4
  rw [if_pos rfl] at H
  by_cases c5 : a0_0 = o0
  ·
   rw [if_pos c5] at H
   have N1 : (a0_0 == o0) = true := beq_iff_eq.mpr c5
   have O1 : (a0_0 != o0) = false := bne_eq_false_iff_eq.mpr c5
   clear c5
   obtain rfl := Option.some.inj H
   go_enter Tryz.func81, Tryz.ntmps81
   go_wp2_with (first | ((with_reducible refine gd_ 2 ?_); refine be_ 2 #[.int .i64 a0_0, .int .i64 a0_1, .slice A0_2 l0_2.length c0_2] 107 ?_; intro Z0 hg w6 hbox hb; have a0 := am_ hbox; have Y0 := tG HB hg; have C1 := tG HB hg; replace HB := tHb HB hb; clear hb hbox hg) | ((with_reducible refine gd_ 3 ?_); refine be_ 3 #[.int .i64 o0, .int .i64 N0, .slice E0 n0.length I0] 107 ?_; intro W0 hg w7 hbox hb; have L0 := am_ hbox; have X0 := tG HB hg; have i1 := tG HB hg; replace HB := tHb HB hb; obtain ⟨m0, u0⟩ := tN a0 hg; replace a0 := tBb a0 hb; clear hb hbox hg; obtain ⟨_, _⟩ := n2 m0; obtain ⟨_, _, _, _, _, _⟩ := bx3 a0; obtain ⟨_, _, _, _, _, _⟩ := bx3 L0) | ((with_reducible refine gate_callee (f := 58) rfl ?_); refine gl_ (some 10) Tryz.func58 #[.slice A0_2 l0_2.length c0_2, .slice E0 n0.length I0] ?_; (with_reducible refine (Fp.calls k _ _ l0_2 _ _ n0 true _ ?A0 ?C0 ?z0 ?M0 A3.out).mono ?_); (case A0 => exact gCB U0 HB); (case C0 => exact O0.out); (case z0 => exact gCB P0 HB); (case M0 => exact Q0.out); rintro e w' ⟨rfl, ⟨nd, rfl⟩⟩; refine ⟨_, rfl, ?_⟩))
   go_ret
   exact ⟨fe, bh HB⟩
  rw [if_neg c5] at H
  have N1 : (a0_0 == o0) = false := beq_eq_false_iff_ne.mpr c5
  have O1 : (a0_0 != o0) = true := bne_iff_ne.mpr c5
  obtain rfl := Option.some.inj H
  go_enter Tryz.func81, Tryz.ntmps81
  go_wp2_with (first | ((with_reducible refine gd_ 2 ?_); refine be_ 2 #[.int .i64 a0_0, .int .i64 a0_1, .slice A0_2 l0_2.length c0_2] 107 ?_; intro Z0 hg U1 hbox hb; have a0 := am_ hbox; have Y0 := tG HB hg; have C1 := tG HB hg; replace HB := tHb HB hb; clear hb hbox hg) | ((with_reducible refine gd_ 3 ?_); refine be_ 3 #[.int .i64 o0, .int .i64 N0, .slice E0 n0.length I0] 107 ?_; intro W0 hg X1 hbox hb; have L0 := am_ hbox; have X0 := tG HB hg; have i1 := tG HB hg; replace HB := tHb HB hb; obtain ⟨m0, u0⟩ := tN a0 hg; replace a0 := tBb a0 hb; clear hb hbox hg; obtain ⟨_, _⟩ := n2 m0; obtain ⟨_, _, _, _, _, _⟩ := bx3 a0; obtain ⟨_, _, _, _, _, _⟩ := bx3 L0) | ((with_reducible refine gate_callee (f := 58) rfl ?_); refine gl_ (some 10) Tryz.func58 #[.slice A0_2 l0_2.length c0_2, .slice E0 n0.length I0] ?_; (with_reducible refine (Fp.calls k _ _ l0_2 _ _ n0 true _ ?A0 ?C0 ?z0 ?M0 A3.out).mono ?_); (case A0 => exact gCB U0 HB); (case C0 => exact O0.out); (case z0 => exact gCB P0 HB); (case M0 => exact Q0.out); rintro e w' ⟨rfl, ⟨nd, rfl⟩⟩; refine ⟨_, rfl, ?_⟩))
  go_ret
  exact ⟨fe, bh HB⟩
 replace c4 := Bool.eq_false_iff.mpr c4
 subst c4
 rw [if_neg (show ¬ (false = true) by decide)] at H
 obtain rfl := Option.some.inj H
 go_enter Tryz.func81, Tryz.ntmps81
 go_wp2_with (first | ((with_reducible refine gd_ 2 ?_); refine be_ 2 #[.int .i64 a0_0, .int .i64 a0_1, .slice A0_2 l0_2.length c0_2] 107 ?_; intro Z0 hg w16 hbox hb; have a0 := am_ hbox; have Y0 := tG HB hg; have C1 := tG HB hg; replace HB := tHb HB hb; clear hb hbox hg) | ((with_reducible refine gd_ 3 ?_); refine be_ 3 #[.int .i64 o0, .int .i64 N0, .slice E0 n0.length I0] 107 ?_; intro W0 hg V1 hbox hb; have L0 := am_ hbox; have X0 := tG HB hg; have i1 := tG HB hg; replace HB := tHb HB hb; obtain ⟨m0, u0⟩ := tN a0 hg; replace a0 := tBb a0 hb; clear hb hbox hg; obtain ⟨_, _⟩ := n2 m0; obtain ⟨_, _, _, _, _, _⟩ := bx3 a0; obtain ⟨_, _, _, _, _, _⟩ := bx3 L0) | ((with_reducible refine gate_callee (f := 58) rfl ?_); refine gl_ (some 10) Tryz.func58 #[.slice A0_2 l0_2.length c0_2, .slice E0 n0.length I0] ?_; (with_reducible refine (Fp.calls k _ _ l0_2 _ _ n0 false _ ?A0 ?C0 ?z0 ?M0 A3.out).mono ?_); (case A0 => exact gCB U0 HB); (case C0 => exact O0.out); (case z0 => exact gCB P0 HB); (case M0 => exact Q0.out); rintro e w' ⟨rfl, ⟨nd, rfl⟩⟩; refine ⟨_, rfl, ?_⟩))
 go_ret
 exact ⟨fe, bh HB⟩

def Fj.l0 : Nat → List (S107) → List (S107) → Int → Option (Bool)
 | 0, _, _, _ => none
 | k + 1, x0, x1, x5 => if x5 < (x0.length : Int) then (if 0 ≤ x5 then (if x5 < (x1.length : Int) then ((Gp.f k ((rd_T107 x0 x5).f0) ((rd_T107 x0 x5).f1) ((rd_T107 x0 x5).f2) ((rd_T107 x1 x5).f0) ((rd_T107 x1 x5).f1) ((rd_T107 x1 x5).f2)).bind fun a0 => (if a0 = true then (Fj.l0 k x0 x1 (wrap64 (x5 + 1))) else (some false))) else (none)) else (none)) else (some true)
def Fj.f (k : Nat) (l0 : List (S107)) (l1 : List (S107)) : Option (Bool) := if (l0.length : Int) = (l1.length : Int) then (Fj.l0 k l0 l1 0) else (some false)
def Fj.T6 : Bool × List (List Nat × List Nat) := (true, [([], []), ([], []), ([0, 1], [0, 1]), ([2], [2]), ([], []), ([], []), ([4, 5], [4, 5]), ([6], [6]), ([3, 7], [3, 7]), ([8, 8, 0, 1, 2, 3, 4, 5, 6, 7, 8], [8])])
def Fj.B6 : List Nat := [0, 0, 3, 7, 0, 0, 48, 112, 255, 511]
theorem Fj.tab6 : rtab .any (opsOf Tryz.f59 6) = Fj.T6 := by kernel_rfl
theorem Fj.bits6 : waitsOk Fj.T6.2 Fj.B6 = true := by kernel_rfl
set_option maxHeartbeats 8000000 in
set_option maxRecDepth 100000 in
theorem Fj.calls (k : Nat) (A0 : Option Addr) (c0 : Nat) (l0 : List (S107)) (A1 : Option Addr) (c1 : Nat) (l1 : List (S107)) (r : Bool) (w : World) (a3 : Kd.C k107 w A0 l0.length l0) (l3 : l0.length ≤ c0) (u3 : Kd.C k107 w A1 l1.length l1) (Y2 : l1.length ≤ c1) (h : Fj.f k l0 l1 = some r) :
  Calls Tryz.prog 59 #[.slice A0 l0.length c0, .slice A1 l1.length c1] w fun e w' => e = .returned (.bool r) ∧ Below w.heap.size w w' := by
 have m3 := Tryz.underlying107
 have i3 := am_ a3
 have J3 := am_ l3
 clear a3 l3
 have Z2 := am_ u3
 have N3 := am_ Y2
 clear u3 Y2
 have HB := am_ (Below.refl w.heap.size w)
 have H : (if (l0.length : Int) = (l1.length : Int) then (Fj.l0 k l0 l1 0) else (some false)) = some r := h
 clear h
 by_cases c3 : (l0.length : Int) = (l1.length : Int)
 ·
  rw [if_pos c3] at H
  have N2 : ((l0.length : Int) == (l1.length : Int)) = true := beq_iff_eq.mpr c3
  have C2 : ((l0.length : Int) != (l1.length : Int)) = false := bne_eq_false_iff_eq.mpr c3
  have D2 : (l0.length == l1.length) = true := by first | simpa using c3 | (simp at c3 ⊢; omega)
  clear c3
  have H' := am_ H
  clear H
  go_enter Tryz.func59, Tryz.ntmps59
  go_wp2
  go_loopg [5] k (fun kq v5 w' => ∃ (a0 : Int), v5 = .int .i64 a0 ∧ Asc (Fj.l0 kq l0 l1 a0 = some r) ∧ Asc (kq ≤ k) ∧ Asc (Below w.heap.size w w'))
  case atStart => exact ⟨(0), fr, H', ⟨Nat.le_refl _⟩, ⟨bh HB⟩⟩
  case round =>
   clear H'
   try clear N2 C2 D2
   obtain ⟨a0, rfl, HA, b3, HB⟩ := hrel
   cases gk with
   | zero => exact absurd HA.out (by simp [Fj.l0])
   | succ k1 =>
    have H := HA.out
    clear HA
    simp only [Fj.l0] at H
    by_cases c4 : a0 < (l0.length : Int)
    ·
     rw [if_pos c4] at H
     have V2 : decide (a0 < (l0.length : Int)) = true := decide_eq_true c4
     clear c4
     revert H
     refine gi (fun C3 H => ?_)
     revert H
     refine gi (fun D3 H => ?_)
     replace H := Option.bind_eq_some_iff.mp H
     obtain ⟨Q2, k3, H⟩ := H
     try dsimp only at H
     have A7 := am_ k3
     clear k3
     by_cases c8 : Q2 = true
     ·
      subst c8
      rw [if_pos rfl] at H
      have H' := am_ H
      clear H
      try go_wp2
      replace HB := am_ (below_drew1 HB.out)
      have O1 : 0 ≤ (a0 : Int) := dt
      have C1 : a0 < (l0.length : Int) := dt
      obtain ⟨L2, i1, P1, i2, o0, z0, m0, U0, P0⟩ := at_T107 i3.out a0 O1 C1
      have V0 := m0
      have X0 := z0
      have W0 := o0
      cases i2
      replace o0 := ce HB o0
      replace z0 := ce HB z0
      replace m0 := ce HB m0
      have E0 := am_ P0
      have Y0 := am_ U0
      clear P0 U0
      replace O1 := eq_true O1
      replace C1 := eq_true C1
      have N1 : 0 ≤ (a0 : Int) := dt
      have D1 : a0 < (l1.length : Int) := dt
      obtain ⟨J2, L1, Q1, Z1, u0, C0, n0, L0, I0⟩ := at_T107 Z2.out a0 N1 D1
      have Q0 := n0
      have N0 := C0
      have O0 := u0
      cases Z1
      replace u0 := ce HB u0
      replace C0 := ce HB C0
      replace n0 := ce HB n0
      have M0 := am_ I0
      have Z0 := am_ L0
      clear I0 L0
      replace N1 := eq_true N1
      replace D1 := eq_true D1
      refine st_ 10 [] (cd_ (ce HB (by first | exact W0)) (cd_ (ce HB (by first | exact X0)) (cd_ (ce HB (by first | exact V0)) (cd_ (ce HB (by first | exact O0)) (cd_ (ce HB (by first | exact N0)) (cd_ (ce HB (by first | exact Q0)) ct)))))) (fun hHeld => ?_); refine with_tabW Fj.tab6 Fj.bits6 (fun HT_ HW_ => ?_)
      generalize wr.drew = w9 at HB E0 M0 o0 z0 m0 u0 C0 n0 hHeld ⊢
      refine pu_ 0 (some 18) 1 HT_ (h := ?_)
      refine pu_ 1 (some 19) 3 HT_ (h := ?_)
      refine pu_ 2 (some 20) 7 HT_ (h := ?_)
      refine pu_ 4 (some 22) 23 HT_ (h := ?_)
      refine pu_ 5 (some 23) 55 HT_ (h := ?_)
      refine pu_ 6 (some 24) 119 HT_ (h := ?_)
      refine tk_ 3 (some 21) 127 HT_ HW_ hHeld (h := ?_)
      refine tk_ 7 (some 25) 255 HT_ HW_ hHeld (h := ?_)
      refine one_ (i := 8) (N := some 26) #[true, true, true, true, true, true, true, true, true, false] rfl rfl (one_of HT_.out (by kernel_rfl)) (by decide) (fun K hK => ?_)
      refine goes_ Tryz.func81 (by kernel_rfl) rfl #[.agg #[.int .i64 ((rd_T107 l0 a0).f0), .int .i64 ((rd_T107 l0 a0).f1), .slice i1 ((rd_T107 l0 a0).f2).length P1], .agg #[.int .i64 ((rd_T107 l1 a0).f0), .int .i64 ((rd_T107 l1 a0).f1), .slice L1 ((rd_T107 l1 a0).f2).length Q1]] (by rfl) rfl rfl (by (try simp only [List.map_toArray, List.map_cons, List.map_nil]); first | done | rfl | (simp only [List.length_drop, List.length_take]; rfl)) ?_
      with_reducible refine (Gp.calls k1 ((rd_T107 l0 a0).f0) ((rd_T107 l0 a0).f1) _ _ ((rd_T107 l0 a0).f2) ((rd_T107 l1 a0).f0) ((rd_T107 l1 a0).f1) _ _ ((rd_T107 l1 a0).f2) true _ ?V1 ?X1 ?U1 ?Y1 A7.out).mono ?_
      (case V1 => exact gCB E0 HB)
      (case X1 => exact Y0.out)
      (case U1 => exact gCB M0 HB)
      (case Y1 => exact Z0.out)
      rintro e I3 ⟨rfl, hb⟩
      refine ⟨_, rfl, ?_⟩
      replace HB := tHb HB hb
      (try clear hb)
      (try clear hb2)
      (try clear hk)
      (try clear hi)
      refine hK.out _ _ (m0_ (ce HB (by first | exact W0)) (m0_ (ce HB (by first | exact X0)) (m0_ (ce HB (by first | exact V0)) (m0_ (ce HB (by first | exact O0)) (m0_ (ce HB (by first | exact N0)) (m0_ (ce HB (by first | exact Q0)) ct)))))) (fun hHeld => ?_)
      clear hK K
      refine norm_ (a' := ?_) ?_ ?_
      rotate_left
      ·
       show Act.put _ (some 26) _ = _
       simp only [Act.put, List.setIfInBounds_toArray, List.set_cons_zero, List.set_cons_succ, i64_w, i32_w]
       rfl
      refine pu_ 9 (some 6) 1023 HT_ (h := ?_)
      refine done_ (done_of HT_.out (by kernel_rfl)) ?_
      try go_wp2
      go_roundg k1
      case measure => have := b3.out; omega
      case rel => exact ⟨(wrap64 (a0 + 1)), fr, H', kS b3, ⟨bh HB⟩⟩
     replace c8 := Bool.eq_false_iff.mpr c8
     subst c8
     rw [if_neg (show ¬ (false = true) by decide)] at H
     obtain rfl := Option.some.inj H
     try go_wp2
     replace HB := am_ (below_drew1 HB.out)
     have O1 : 0 ≤ (a0 : Int) := dt
     have C1 : a0 < (l0.length : Int) := dt
     obtain ⟨L2, i1, P1, i2, o0, z0, m0, U0, P0⟩ := at_T107 i3.out a0 O1 C1
     have V0 := m0
     have X0 := z0
     have W0 := o0
     cases i2
     replace o0 := ce HB o0
     replace z0 := ce HB z0
     replace m0 := ce HB m0
     have E0 := am_ P0
     have Y0 := am_ U0
     clear P0 U0
     replace O1 := eq_true O1
     replace C1 := eq_true C1
     have N1 : 0 ≤ (a0 : Int) := dt
     have D1 : a0 < (l1.length : Int) := dt
     obtain ⟨J2, L1, Q1, Z1, u0, C0, n0, L0, I0⟩ := at_T107 Z2.out a0 N1 D1
     have Q0 := n0
     have N0 := C0
     have O0 := u0
     cases Z1
     replace u0 := ce HB u0
     replace C0 := ce HB C0
     replace n0 := ce HB n0
     have M0 := am_ I0
     have Z0 := am_ L0
     clear I0 L0
     replace N1 := eq_true N1
     replace D1 := eq_true D1
     refine st_ 10 [] (cd_ (ce HB (by first | exact W0)) (cd_ (ce HB (by first | exact X0)) (cd_ (ce HB (by first | exact V0)) (cd_ (ce HB (by first | exact O0)) (cd_ (ce HB (by first | exact N0)) (cd_ (ce HB (by first | exact Q0)) ct)))))) (fun hHeld => ?_); refine with_tabW Fj.tab6 Fj.bits6 (fun HT_ HW_ => ?_)
     generalize wr.drew = L3 at HB E0 M0 o0 z0 m0 u0 C0 n0 hHeld ⊢
     refine pu_ 0 (some 18) 1 HT_ (h := ?_)
     refine pu_ 1 (some 19) 3 HT_ (h := ?_)
     refine pu_ 2 (some 20) 7 HT_ (h := ?_)
     refine pu_ 4 (some 22) 23 HT_ (h := ?_)
     refine pu_ 5 (some 23) 55 HT_ (h := ?_)
     refine pu_ 6 (some 24) 119 HT_ (h := ?_)
     refine tk_ 3 (some 21) 127 HT_ HW_ hHeld (h := ?_)
     refine tk_ 7 (some 25) 255 HT_ HW_ hHeld (h := ?_)
     refine one_ (i := 8) (N := some 26) #[true, true, true, true, true, true, true, true, true, false] rfl rfl (one_of HT_.out (by kernel_rfl)) (by decide) (fun K hK => ?_)
     refine goes_ Tryz.func81 (by kernel_rfl) rfl #[.agg #[.int .i64 ((rd_T107 l0 a0).f0), .int .i64 ((rd_T107 l0 a0).f1), .slice i1 ((rd_T107 l0 a0).f2).length P1], .agg #[.int .i64 ((rd_T107 l1 a0).f0), .int .i64 ((rd_T107 l1 a0).f1), .slice L1 ((rd_T107 l1 a0).f2).length Q1]] (by rfl) rfl rfl (by (try simp only [List.map_toArray, List.map_cons, List.map_nil]); first | done | rfl | (simp only [List.length_drop, List.length_take]; rfl)) ?_
     with_reducible refine (Gp.calls k1 ((rd_T107 l0 a0).f0) ((rd_T107 l0 a0).f1) _ _ ((rd_T107 l0 a0).f2) ((rd_T107 l1 a0).f0) ((rd_T107 l1 a0).f1) _ _ ((rd_T107 l1 a0).f2) false _ ?V1 ?X1 ?U1 ?Y1 A7.out).mono ?_
     (case V1 => exact gCB E0 HB)
     (case X1 => exact Y0.out)
     (case U1 => exact gCB M0 HB)
     (case Y1 => exact Z0.out)
     rintro e Q3 ⟨rfl, hb⟩
     refine ⟨_, rfl, ?_⟩
     replace HB := tHb HB hb
     (try clear hb)
     (try clear hb2)
     (try clear hk)
     (try clear hi)
     refine hK.out _ _ (m0_ (ce HB (by first | exact W0)) (m0_ (ce HB (by first | exact X0)) (m0_ (ce HB (by first | exact V0)) (m0_ (ce HB (by first | exact O0)) (m0_ (ce HB (by first | exact N0)) (m0_ (ce HB (by first | exact Q0)) ct)))))) (fun hHeld => ?_)
     clear hK K
     refine norm_ (a' := ?_) ?_ ?_
     rotate_left
     ·
      show Act.put _ (some 26) _ = _
      simp only [Act.put, List.setIfInBounds_toArray, List.set_cons_zero, List.set_cons_succ, i64_w, i32_w]
      rfl
     refine pu_ 9 (some 6) 1023 HT_ (h := ?_)
     refine done_ (done_of HT_.out (by kernel_rfl)) ?_
     try go_wp2
     go_ret
     exact ⟨fe, bh HB⟩
    rw [if_neg c4] at H
    have V2 : decide (a0 < (l0.length : Int)) = false := decide_eq_false c4
    clear c4
    obtain rfl := Option.some.inj H
    go_wp2
    go_ret
    exact ⟨fe, bh HB⟩
 rw [if_neg c3] at H
 have N2 : ((l0.length : Int) == (l1.length : Int)) = false := beq_eq_false_iff_ne.mpr c3
 have C2 : ((l0.length : Int) != (l1.length : Int)) = true := bne_iff_ne.mpr c3
 have D2 : (l0.length == l1.length) = false := by first | simpa using c3 | (simp at c3 ⊢; omega)
 obtain rfl := Option.some.inj H
 go_enter Tryz.func59, Tryz.ntmps59
 go_wp2
 go_ret
 exact ⟨fe, bh HB⟩

def Gj.f (k : Nat) (a0_0 : Int) (a0_1 : Int) (l0_2 : List (S107)) (m0 : List ByteArray) (L0 : Int) (u0 : Int) (n0 : Int) (a0 : Int) (I0 : List (S107)) (C0 : List ByteArray) (o0 : Int) (E0 : Int) : Option (Bool) := (Fp.f k m0 C0).bind fun A0 => ((Fj.f k l0_2 I0).bind fun z0 => (if A0 = true then (if z0 = true then (if a0_0 = n0 then (if a0_1 = a0 then (some (L0 == o0 && (u0 == E0))) else (some false)) else (some false)) else (some false)) else (some false)))
set_option maxHeartbeats 8000000 in
set_option maxRecDepth 100000 in
theorem Gj.calls (k : Nat) (a0_0 : Int) (a0_1 : Int) (A0_2 : Option Addr) (c0_2 : Nat) (l0_2 : List (S107)) (W0 : Option Addr) (O0 : Nat) (C0 : List ByteArray) (U1 : Int) (Q1 : Int) (N0 : Int) (M0 : Int) (U0 : Option Addr) (V0 : Nat) (E0 : List (S107)) (P0 : Option Addr) (Q0 : Nat) (I0 : List ByteArray) (Z0 : Int) (O1 : Int) (r : Bool) (w : World) (hr0_2 : Kd.C k107 w A0_2 l0_2.length l0_2) (hc0_2 : l0_2.length ≤ c0_2) (Y2 : Kd.C Kd.string w W0 C0.length C0) (J2 : C0.length ≤ O0) (Q2 : Kd.C k107 w U0 E0.length E0) (N2 : E0.length ≤ V0) (L2 : Kd.C Kd.string w P0 I0.length I0) (V2 : I0.length ≤ Q0) (h : Gj.f k a0_0 a0_1 l0_2 C0 U1 Q1 N0 M0 E0 I0 Z0 O1 = some r) :
  Calls Tryz.prog 33 #[.agg #[.int .i64 a0_0, .int .i64 a0_1, .slice A0_2 l0_2.length c0_2, .slice W0 C0.length O0, .int .i64 U1, .int .i64 Q1], .agg #[.int .i64 N0, .int .i64 M0, .slice U0 E0.length V0, .slice P0 I0.length Q0, .int .i64 Z0, .int .i64 O1]] w fun e w' => e = .returned (.bool r) ∧ Below w.heap.size w w' := by
 have C3 := Tryz.underlying30
 have u3 := Tryz.underlying28
 have P1 := am_ hr0_2
 have X0 := am_ hc0_2
 clear hr0_2 hc0_2
 have C1 := am_ Y2
 have i1 := am_ J2
 clear Y2 J2
 have L1 := am_ Q2
 have N1 := am_ N2
 clear Q2 N2
 have Y0 := am_ L2
 have D1 := am_ V2
 clear L2 V2
 have HB := am_ (Below.refl w.heap.size w)
 have H : ((Fp.f k C0 I0).bind fun Z2 => ((Fj.f k l0_2 E0).bind fun D2 => (if Z2 = true then (if D2 = true then (if a0_0 = N0 then (if a0_1 = M0 then (some (U1 == Z0 && (Q1 == O1))) else (some false)) else (some false)) else (some false)) else (some false)))) = some r := h
 clear h
 replace H := Option.bind_eq_some_iff.mp H
 obtain ⟨Z2, m3, H⟩ := H
 try dsimp only at H
 have A3 := am_ m3
 clear m3
 replace H := Option.bind_eq_some_iff.mp H
 obtain ⟨D2, l3, H⟩ := H
 try dsimp only at H
 have A4 := am_ l3
 clear l3
 by_cases c5 : Z2 = true
 ·
  subst c5
  rw [if_pos rfl] at H
  by_cases c6 : D2 = true
  ·
   subst c6
   rw [if_pos rfl] at H
   by_cases c7 : a0_0 = N0
   ·
    rw [if_pos c7] at H
    have i3 : (a0_0 == N0) = true := beq_iff_eq.mpr c7
    have k3 : (a0_0 != N0) = false := bne_eq_false_iff_eq.mpr c7
    clear c7
    by_cases c8 : a0_1 = M0
    ·
     rw [if_pos c8] at H
     have a3 : (a0_1 == M0) = true := beq_iff_eq.mpr c8
     have b3 : (a0_1 != M0) = false := bne_eq_false_iff_eq.mpr c8
     clear c8
     obtain rfl := Option.some.inj H
     go_enter Tryz.func33, Tryz.ntmps33
     go_wp2_with (first | ((with_reducible refine gd_ 2 ?_); refine be_ 2 #[.int .i64 a0_0, .int .i64 a0_1, .slice A0_2 l0_2.length c0_2, .slice W0 C0.length O0, .int .i64 U1, .int .i64 Q1] 30 ?_; intro Z1 hg w9 hbox hb; have a0 := am_ hbox; have i2 := tG HB hg; have Y1 := tG HB hg; replace HB := tHb HB hb; clear hb hbox hg) | ((with_reducible refine gd_ 3 ?_); refine be_ 3 #[.int .i64 N0, .int .i64 M0, .slice U0 E0.length V0, .slice P0 I0.length Q0, .int .i64 Z0, .int .i64 O1] 30 ?_; intro X1 hg N3 hbox hb; have n0 := am_ hbox; have C2 := tG HB hg; have V1 := tG HB hg; replace HB := tHb HB hb; obtain ⟨m0, L0⟩ := tN a0 hg; replace a0 := tBb a0 hb; clear hb hbox hg; obtain ⟨_, _⟩ := n2 m0; obtain ⟨_, _, _, _, _, _, _, _, _, _, _, _⟩ := bx6 a0; obtain ⟨_, _, _, _, _, _, _, _, _, _, _, _⟩ := bx6 n0) | ((with_reducible refine gate_callee (f := 58) rfl ?_); refine gl_ (some 11) Tryz.func58 #[.slice W0 C0.length O0, .slice P0 I0.length Q0] ?_; (with_reducible refine (Fp.calls k _ _ C0 _ _ I0 true _ ?u0 ?z0 ?o0 ?A0 A3.out).mono ?_); (case u0 => exact gCB C1 HB); (case z0 => exact i1.out); (case o0 => exact gCB Y0 HB); (case A0 => exact D1.out); rintro e w' ⟨rfl, ⟨nd, rfl⟩⟩; refine ⟨_, rfl, ?_⟩) | ((with_reducible refine gate_callee (f := 59) rfl ?_); refine gl_ (some 16) Tryz.func59 #[.slice A0_2 l0_2.length c0_2, .slice U0 E0.length V0] ?_; (with_reducible refine (Fj.calls k _ _ l0_2 _ _ E0 true _ ?u0 ?z0 ?o0 ?A0 A4.out).mono ?_); (case u0 => repeat (first | exact (Kd.C_below P1.out (bh HB)) | (with_reducible refine Kd.C_alloc ?_ _) | (with_reducible refine Kd.C_drewN ?_ _) | (with_reducible refine Kd.C_drew ?_))); (case z0 => exact X0.out); (case o0 => repeat (first | exact (Kd.C_below L1.out (bh HB)) | (with_reducible refine Kd.C_alloc ?_ _) | (with_reducible refine Kd.C_drewN ?_ _) | (with_reducible refine Kd.C_drew ?_))); (case A0 => exact N1.out); rintro e D3 ⟨rfl, hb⟩; refine ⟨_, rfl, ?_⟩; replace a0 := tBb a0 hb; replace n0 := tBb n0 hb; replace HB := tHb HB hb; (try clear hb); obtain ⟨_, _, _, _, _, _, _, _, _, _, _, _⟩ := bx6 a0; obtain ⟨_, _, _, _, _, _, _, _, _, _, _, _⟩ := bx6 n0))
     go_ret
     exact ⟨fe, bh HB⟩
    rw [if_neg c8] at H
    have a3 : (a0_1 == M0) = false := beq_eq_false_iff_ne.mpr c8
    have b3 : (a0_1 != M0) = true := bne_iff_ne.mpr c8
    obtain rfl := Option.some.inj H
    go_enter Tryz.func33, Tryz.ntmps33
    go_wp2_with (first | ((with_reducible refine gd_ 2 ?_); refine be_ 2 #[.int .i64 a0_0, .int .i64 a0_1, .slice A0_2 l0_2.length c0_2, .slice W0 C0.length O0, .int .i64 U1, .int .i64 Q1] 30 ?_; intro Z1 hg W3 hbox hb; have a0 := am_ hbox; have i2 := tG HB hg; have Y1 := tG HB hg; replace HB := tHb HB hb; clear hb hbox hg) | ((with_reducible refine gd_ 3 ?_); refine be_ 3 #[.int .i64 N0, .int .i64 M0, .slice U0 E0.length V0, .slice P0 I0.length Q0, .int .i64 Z0, .int .i64 O1] 30 ?_; intro X1 hg J3 hbox hb; have n0 := am_ hbox; have C2 := tG HB hg; have V1 := tG HB hg; replace HB := tHb HB hb; obtain ⟨m0, L0⟩ := tN a0 hg; replace a0 := tBb a0 hb; clear hb hbox hg; obtain ⟨_, _⟩ := n2 m0; obtain ⟨_, _, _, _, _, _, _, _, _, _, _, _⟩ := bx6 a0; obtain ⟨_, _, _, _, _, _, _, _, _, _, _, _⟩ := bx6 n0) | ((with_reducible refine gate_callee (f := 58) rfl ?_); refine gl_ (some 11) Tryz.func58 #[.slice W0 C0.length O0, .slice P0 I0.length Q0] ?_; (with_reducible refine (Fp.calls k _ _ C0 _ _ I0 true _ ?u0 ?z0 ?o0 ?A0 A3.out).mono ?_); (case u0 => exact gCB C1 HB); (case z0 => exact i1.out); (case o0 => exact gCB Y0 HB); (case A0 => exact D1.out); rintro e w' ⟨rfl, ⟨nd, rfl⟩⟩; refine ⟨_, rfl, ?_⟩) | ((with_reducible refine gate_callee (f := 59) rfl ?_); refine gl_ (some 16) Tryz.func59 #[.slice A0_2 l0_2.length c0_2, .slice U0 E0.length V0] ?_; (with_reducible refine (Fj.calls k _ _ l0_2 _ _ E0 true _ ?u0 ?z0 ?o0 ?A0 A4.out).mono ?_); (case u0 => repeat (first | exact (Kd.C_below P1.out (bh HB)) | (with_reducible refine Kd.C_alloc ?_ _) | (with_reducible refine Kd.C_drewN ?_ _) | (with_reducible refine Kd.C_drew ?_))); (case z0 => exact X0.out); (case o0 => repeat (first | exact (Kd.C_below L1.out (bh HB)) | (with_reducible refine Kd.C_alloc ?_ _) | (with_reducible refine Kd.C_drewN ?_ _) | (with_reducible refine Kd.C_drew ?_))); (case A0 => exact N1.out); rintro e U3 ⟨rfl, hb⟩; refine ⟨_, rfl, ?_⟩; replace a0 := tBb a0 hb; replace n0 := tBb n0 hb; replace HB := tHb HB hb; (try clear hb); obtain ⟨_, _, _, _, _, _, _, _, _, _, _, _⟩ := bx6 a0; obtain ⟨_, _, _, _, _, _, _, _, _, _, _, _⟩ := bx6 n0))
    go_ret
    exact ⟨fe, bh HB⟩
   rw [if_neg c7] at H
   have i3 : (a0_0 == N0) = false := beq_eq_false_iff_ne.mpr c7
   have k3 : (a0_0 != N0) = true := bne_iff_ne.mpr c7
   obtain rfl := Option.some.inj H
   go_enter Tryz.func33, Tryz.ntmps33
   go_wp2_with (first | ((with_reducible refine gd_ 2 ?_); refine be_ 2 #[.int .i64 a0_0, .int .i64 a0_1, .slice A0_2 l0_2.length c0_2, .slice W0 C0.length O0, .int .i64 U1, .int .i64 Q1] 30 ?_; intro Z1 hg V3 hbox hb; have a0 := am_ hbox; have i2 := tG HB hg; have Y1 := tG HB hg; replace HB := tHb HB hb; clear hb hbox hg) | ((with_reducible refine gd_ 3 ?_); refine be_ 3 #[.int .i64 N0, .int .i64 M0, .slice U0 E0.length V0, .slice P0 I0.length Q0, .int .i64 Z0, .int .i64 O1] 30 ?_; intro X1 hg Z3 hbox hb; have n0 := am_ hbox; have C2 := tG HB hg; have V1 := tG HB hg; replace HB := tHb HB hb; obtain ⟨m0, L0⟩ := tN a0 hg; replace a0 := tBb a0 hb; clear hb hbox hg; obtain ⟨_, _⟩ := n2 m0; obtain ⟨_, _, _, _, _, _, _, _, _, _, _, _⟩ := bx6 a0; obtain ⟨_, _, _, _, _, _, _, _, _, _, _, _⟩ := bx6 n0) | ((with_reducible refine gate_callee (f := 58) rfl ?_); refine gl_ (some 11) Tryz.func58 #[.slice W0 C0.length O0, .slice P0 I0.length Q0] ?_; (with_reducible refine (Fp.calls k _ _ C0 _ _ I0 true _ ?u0 ?z0 ?o0 ?A0 A3.out).mono ?_); (case u0 => exact gCB C1 HB); (case z0 => exact i1.out); (case o0 => exact gCB Y0 HB); (case A0 => exact D1.out); rintro e w' ⟨rfl, ⟨nd, rfl⟩⟩; refine ⟨_, rfl, ?_⟩) | ((with_reducible refine gate_callee (f := 59) rfl ?_); refine gl_ (some 16) Tryz.func59 #[.slice A0_2 l0_2.length c0_2, .slice U0 E0.length V0] ?_; (with_reducible refine (Fj.calls k _ _ l0_2 _ _ E0 true _ ?u0 ?z0 ?o0 ?A0 A4.out).mono ?_); (case u0 => repeat (first | exact (Kd.C_below P1.out (bh HB)) | (with_reducible refine Kd.C_alloc ?_ _) | (with_reducible refine Kd.C_drewN ?_ _) | (with_reducible refine Kd.C_drew ?_))); (case z0 => exact X0.out); (case o0 => repeat (first | exact (Kd.C_below L1.out (bh HB)) | (with_reducible refine Kd.C_alloc ?_ _) | (with_reducible refine Kd.C_drewN ?_ _) | (with_reducible refine Kd.C_drew ?_))); (case A0 => exact N1.out); rintro e Q3 ⟨rfl, hb⟩; refine ⟨_, rfl, ?_⟩; replace a0 := tBb a0 hb; replace n0 := tBb n0 hb; replace HB := tHb HB hb; (try clear hb); obtain ⟨_, _, _, _, _, _, _, _, _, _, _, _⟩ := bx6 a0; obtain ⟨_, _, _, _, _, _, _, _, _, _, _, _⟩ := bx6 n0))
   go_ret
   exact ⟨fe, bh HB⟩
  replace c6 := Bool.eq_false_iff.mpr c6
  subst c6
  rw [if_neg (show ¬ (false = true) by decide)] at H
  obtain rfl := Option.some.inj H
  go_enter Tryz.func33, Tryz.ntmps33
  go_wp2_with (first | ((with_reducible refine gd_ 2 ?_); refine be_ 2 #[.int .i64 a0_0, .int .i64 a0_1, .slice A0_2 l0_2.length c0_2, .slice W0 C0.length O0, .int .i64 U1, .int .i64 Q1] 30 ?_; intro Z1 hg Y3 hbox hb; have a0 := am_ hbox; have i2 := tG HB hg; have Y1 := tG HB hg; replace HB := tHb HB hb; clear hb hbox hg) | ((with_reducible refine gd_ 3 ?_); refine be_ 3 #[.int .i64 N0, .int .i64 M0, .slice U0 E0.length V0, .slice P0 I0.length Q0, .int .i64 Z0, .int .i64 O1] 30 ?_; intro X1 hg I3 hbox hb; have n0 := am_ hbox; have C2 := tG HB hg; have V1 := tG HB hg; replace HB := tHb HB hb; obtain ⟨m0, L0⟩ := tN a0 hg; replace a0 := tBb a0 hb; clear hb hbox hg; obtain ⟨_, _⟩ := n2 m0; obtain ⟨_, _, _, _, _, _, _, _, _, _, _, _⟩ := bx6 a0; obtain ⟨_, _, _, _, _, _, _, _, _, _, _, _⟩ := bx6 n0) | ((with_reducible refine gate_callee (f := 58) rfl ?_); refine gl_ (some 11) Tryz.func58 #[.slice W0 C0.length O0, .slice P0 I0.length Q0] ?_; (with_reducible refine (Fp.calls k _ _ C0 _ _ I0 true _ ?u0 ?z0 ?o0 ?A0 A3.out).mono ?_); (case u0 => exact gCB C1 HB); (case z0 => exact i1.out); (case o0 => exact gCB Y0 HB); (case A0 => exact D1.out); rintro e w' ⟨rfl, ⟨nd, rfl⟩⟩; refine ⟨_, rfl, ?_⟩) | ((with_reducible refine gate_callee (f := 59) rfl ?_); refine gl_ (some 16) Tryz.func59 #[.slice A0_2 l0_2.length c0_2, .slice U0 E0.length V0] ?_; (with_reducible refine (Fj.calls k _ _ l0_2 _ _ E0 false _ ?u0 ?z0 ?o0 ?A0 A4.out).mono ?_); (case u0 => repeat (first | exact (Kd.C_below P1.out (bh HB)) | (with_reducible refine Kd.C_alloc ?_ _) | (with_reducible refine Kd.C_drewN ?_ _) | (with_reducible refine Kd.C_drew ?_))); (case z0 => exact X0.out); (case o0 => repeat (first | exact (Kd.C_below L1.out (bh HB)) | (with_reducible refine Kd.C_alloc ?_ _) | (with_reducible refine Kd.C_drewN ?_ _) | (with_reducible refine Kd.C_drew ?_))); (case A0 => exact N1.out); rintro e X3 ⟨rfl, hb⟩; refine ⟨_, rfl, ?_⟩; replace a0 := tBb a0 hb; replace n0 := tBb n0 hb; replace HB := tHb HB hb; (try clear hb)))
  go_ret
  exact ⟨fe, bh HB⟩
 replace c5 := Bool.eq_false_iff.mpr c5
 subst c5
 rw [if_neg (show ¬ (false = true) by decide)] at H
 obtain rfl := Option.some.inj H
 go_enter Tryz.func33, Tryz.ntmps33
 go_wp2_with (first | ((with_reducible refine gd_ 2 ?_); refine be_ 2 #[.int .i64 a0_0, .int .i64 a0_1, .slice A0_2 l0_2.length c0_2, .slice W0 C0.length O0, .int .i64 U1, .int .i64 Q1] 30 ?_; intro Z1 hg L3 hbox hb; have a0 := am_ hbox; have i2 := tG HB hg; have Y1 := tG HB hg; replace HB := tHb HB hb; clear hb hbox hg) | ((with_reducible refine gd_ 3 ?_); refine be_ 3 #[.int .i64 N0, .int .i64 M0, .slice U0 E0.length V0, .slice P0 I0.length Q0, .int .i64 Z0, .int .i64 O1] 30 ?_; intro X1 hg a4 hbox hb; have n0 := am_ hbox; have C2 := tG HB hg; have V1 := tG HB hg; replace HB := tHb HB hb; obtain ⟨m0, L0⟩ := tN a0 hg; replace a0 := tBb a0 hb; clear hb hbox hg; obtain ⟨_, _⟩ := n2 m0; obtain ⟨_, _, _, _, _, _, _, _, _, _, _, _⟩ := bx6 a0; obtain ⟨_, _, _, _, _, _, _, _, _, _, _, _⟩ := bx6 n0) | ((with_reducible refine gate_callee (f := 58) rfl ?_); refine gl_ (some 11) Tryz.func58 #[.slice W0 C0.length O0, .slice P0 I0.length Q0] ?_; (with_reducible refine (Fp.calls k _ _ C0 _ _ I0 false _ ?u0 ?z0 ?o0 ?A0 A3.out).mono ?_); (case u0 => exact gCB C1 HB); (case z0 => exact i1.out); (case o0 => exact gCB Y0 HB); (case A0 => exact D1.out); rintro e w' ⟨rfl, ⟨nd, rfl⟩⟩; refine ⟨_, rfl, ?_⟩) | ((with_reducible refine gate_callee (f := 59) rfl ?_); refine gl_ (some 16) Tryz.func59 #[.slice A0_2 l0_2.length c0_2, .slice U0 E0.length V0] ?_; (with_reducible refine (Fj.calls k _ _ l0_2 _ _ E0 D2 _ ?u0 ?z0 ?o0 ?A0 A4.out).mono ?_); (case u0 => repeat (first | exact (Kd.C_below P1.out (bh HB)) | (with_reducible refine Kd.C_alloc ?_ _) | (with_reducible refine Kd.C_drewN ?_ _) | (with_reducible refine Kd.C_drew ?_))); (case z0 => exact X0.out); (case o0 => repeat (first | exact (Kd.C_below L1.out (bh HB)) | (with_reducible refine Kd.C_alloc ?_ _) | (with_reducible refine Kd.C_drewN ?_ _) | (with_reducible refine Kd.C_drew ?_))); (case A0 => exact N1.out); rintro e S3 ⟨rfl, hb⟩; refine ⟨_, rfl, ?_⟩; replace a0 := tBb a0 hb; replace n0 := tBb n0 hb; replace HB := tHb HB hb; (try clear hb)))
 go_ret
 exact ⟨fe, bh HB⟩

end Go.Proofs.YtopijobdblfhoaaGreat.PTuskAsks
