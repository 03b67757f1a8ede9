-- written by a program of this session (pp.py), out of the kit's print and this session's contracts
import Derived.Test.YtopijobdblfhoaaGreatPTuskAsksx0
import Derived.Test.YtopijobdblfhoaaGreatPTuskAsksx5
import Derived.Test.YtopijobdblfhoaaGreatPTuskAsksx6
import Derived.Test.YtopijobdblfhoaaGreatPTuskAsksx14
import Derived.Test.YtopijobdblfhoaaGreatVTuskAsksPi
namespace Go.Proofs.YtopijobdblfhoaaGreat.PTuskAsks
open Go.RowKit Go.Proofs.YtopijobdblfhoaaGreatW.PrintWords Go.Proofs.YtopijobdblfhoaaGreatW.PrintLast Go.Proofs.YtopijobdblfhoaaGreatW.PrintMore
set_option linter.unusedVariables false
set_option linter.unusedSimpArgs false

def Gq.f (k : Nat)  : Option (Bool) := (F3.f k 3).bind fun a0 => ((F5.f k a0.1 a0.2.1 a0.2.2 0).bind fun m0 => (if (m0.1.length : Int) = 1 then (some (m0.2 == 1)) else (some false)))
set_option maxHeartbeats 8000000 in
set_option maxRecDepth 100000 in
theorem Gq.calls (k : Nat)  (r : Bool) (w : World) (h : Gq.f k  = some r) :
  Calls Tryz.prog 7 #[] w fun e w' => e = .returned (.bool r) ∧ Below w.heap.size w w' := by
 have HB := am_ (Below.refl w.heap.size w)
 have H : ((F3.f k 3).bind fun A0 => ((F5.f k A0.1 A0.2.1 A0.2.2 0).bind fun I0 => (if (I0.1.length : Int) = 1 then (some (I0.2 == 1)) else (some false)))) = some r := h
 clear h
 replace H := Option.bind_eq_some_iff.mp H
 obtain ⟨⟨z0, n0, u0⟩, V0, H⟩ := H
 try dsimp only at H
 have A1 := am_ V0
 clear V0
 replace H := Option.bind_eq_some_iff.mp H
 obtain ⟨⟨m0, L0⟩, U0, H⟩ := H
 try dsimp only at H
 have A2 := am_ U0
 clear U0
 by_cases c3 : (m0.length : Int) = 1
 ·
  rw [if_pos c3] at H
  have Q0 : ((m0.length : Int) == 1) = true := beq_iff_eq.mpr c3
  have N0 : ((m0.length : Int) != 1) = false := bne_eq_false_iff_eq.mpr c3
  clear c3
  obtain rfl := Option.some.inj H
  go_enter Tryz.func7, Tryz.ntmps7
  go_wp2_with (first | ((with_reducible refine gate_callee (f := 26) rfl ?_); refine gl_ (some 4) Tryz.func26 #[.int .i64 3] ?_; (with_reducible refine (F3.calls k 3 z0 n0 u0 _ A1.out).mono ?_); rintro e w4 ⟨M0, rfl, o0, hb⟩; refine ⟨_, rfl, ?_⟩; have a0 := am_ (Kd.V_lower (Kd.V_mono (ok' := fun k_ => True) o0 (fun k_ hk_ => trivial)) (below_size (bh HB))); replace HB := tHb HB hb; (try clear hb o0); obtain ⟨i1, C1, rfl⟩ := Kd.V_slice a0.out) | ((with_reducible refine gate_callee (f := 19) rfl ?_); refine gl_ (some 5) Tryz.func19 #[.agg #[.int .i64 z0, .int .i64 n0, .slice i1 u0.length C1], .int .i64 0] ?_; (with_reducible refine (F5.calls k z0 n0 (fun k_ => True) _ _ u0 0 m0 L0 _ ?C0 A2.out).mono ?_); (case C0 => exact a0.out); rintro e w6 ⟨O0, rfl, o0, hb⟩; refine ⟨_, rfl, ?_⟩; replace a0 := am_ (Kd.V_elder' (hV a0) (Kd.N_base o0) hb); have E0 := am_ (Kd.N_lower (Kd.N_mono (ok' := fun k_ => True) o0 (fun k_ hk_ => trivial)) (below_size (bh HB))); replace HB := tHb HB hb; (try clear hb o0); obtain ⟨L1, O1, D1⟩ := Kd.N_slice E0.out; subst D1))
  go_ret
  exact ⟨fe, bh HB⟩
 rw [if_neg c3] at H
 have Q0 : ((m0.length : Int) == 1) = false := beq_eq_false_iff_ne.mpr c3
 have N0 : ((m0.length : Int) != 1) = true := bne_iff_ne.mpr c3
 obtain rfl := Option.some.inj H
 go_enter Tryz.func7, Tryz.ntmps7
 go_wp2_with (first | ((with_reducible refine gate_callee (f := 26) rfl ?_); refine gl_ (some 4) Tryz.func26 #[.int .i64 3] ?_; (with_reducible refine (F3.calls k 3 z0 n0 u0 _ A1.out).mono ?_); rintro e w8 ⟨M0, rfl, o0, hb⟩; refine ⟨_, rfl, ?_⟩; have a0 := am_ (Kd.V_lower (Kd.V_mono (ok' := fun k_ => True) o0 (fun k_ hk_ => trivial)) (below_size (bh HB))); replace HB := tHb HB hb; (try clear hb o0); obtain ⟨W0, Y0, rfl⟩ := Kd.V_slice a0.out) | ((with_reducible refine gate_callee (f := 19) rfl ?_); refine gl_ (some 5) Tryz.func19 #[.agg #[.int .i64 z0, .int .i64 n0, .slice W0 u0.length Y0], .int .i64 0] ?_; (with_reducible refine (F5.calls k z0 n0 (fun k_ => True) _ _ u0 0 m0 L0 _ ?C0 A2.out).mono ?_); (case C0 => exact a0.out); rintro e N1 ⟨O0, rfl, o0, hb⟩; refine ⟨_, rfl, ?_⟩; replace a0 := am_ (Kd.V_elder' (hV a0) (Kd.N_base o0) hb); have E0 := am_ (Kd.N_lower (Kd.N_mono (ok' := fun k_ => True) o0 (fun k_ hk_ => trivial)) (below_size (bh HB))); replace HB := tHb HB hb; (try clear hb o0); obtain ⟨Z0, X0, P0⟩ := Kd.N_slice E0.out; subst P0))
 go_ret
 exact ⟨fe, bh HB⟩

def Fu.l0 : Nat → Int → Int → Int → List (S32) → Option (Bool)
 | 0, _, _, _, _ => none
 | k + 1, x3, n0, m0, a0 => if x3 < (a0.length : Int) then (if 0 ≤ x3 then (if ((rd_T32 a0 x3).f1.f1) > 60 then (some false) else (Fu.l0 k (wrap64 (x3 + 1)) n0 m0 a0)) else (none)) else (some (decide ((a0.length : Int) ≤ 60)))
def Fu.f (k : Nat) (a0_0 : Int) (a0_1 : Int) (l0_2 : List (S32)) : Option (Bool) := Fu.l0 k 0 a0_0 a0_1 l0_2
theorem Fu.mono_l : ∀ k, (∀ y0 y1 y2 y3, LeO (Fu.l0 k y0 y1 y2 y3) (Fu.l0 (k + 1) y0 y1 y2 y3))
 | 0 => fun _ _ _ _ r h => by simp [Fu.l0] at h
 | k + 1 => by
  have a0 := Fu.mono_l k
  ·
   intro y0 y1 y2 y3
   unfold Fu.l0
   repeat' first | (with_reducible first | exact a0 _ _ _ _ | exact LeO.refl _ | exact LeO.none _ | refine LeO.ite ?_ ?_ | refine LeO.bind ?_ (fun _ => ?_)) | exact a0 _ _ _ _ | refine LeO.ite ?_ ?_ | refine LeO.bind ?_ (fun _ => ?_)
set_option maxHeartbeats 8000000 in
set_option maxRecDepth 100000 in
theorem Fu.calls (k : Nat) (a0_0 : Int) (a0_1 : Int) (A0_2 : Option Addr) (c0_2 : Nat) (l0_2 : List (S32)) (r : Bool) (w : World) (hr0_2 : Kd.C k32 w A0_2 l0_2.length l0_2) (hc0_2 : l0_2.length ≤ c0_2) (h : Fu.f k a0_0 a0_1 l0_2 = some r) :
  Calls Tryz.prog 8 #[.agg #[.int .i64 a0_0, .int .i64 a0_1, .slice A0_2 l0_2.length c0_2]] w fun e w' => e = .returned (.bool r) ∧ Below w.heap.size w w' := by
 have Z1 := Tryz.underlying24
 have X0 := am_ hr0_2
 have Q1 := am_ hc0_2
 clear hr0_2 hc0_2
 have HB := am_ (Below.refl w.heap.size w)
 have H : (Fu.l0 k 0 a0_0 a0_1 l0_2) = some r := h
 clear h
 have H' := am_ H
 clear H
 go_enter Tryz.func8, Tryz.ntmps8
 go_wp2_with (first | ((with_reducible refine gd_ 1 ?_); refine be_ 1 #[.int .i64 a0_0, .int .i64 a0_1, .slice A0_2 l0_2.length c0_2] 24 ?_; intro L1 hg w2 hbox hb; have N0 := am_ hbox; have U1 := tG HB hg; have X1 := tG HB hg; replace HB := tHb HB hb; clear hb hbox hg))
 go_loopg [3] k (fun kq v3 w' => ∃ (a0 : Int), v3 = .int .i64 a0 ∧ Asc (Fu.l0 kq a0 a0_0 a0_1 l0_2 = some r) ∧ Asc (kq ≤ k) ∧ Asc (w'.heap[L1]? = some (.cells #[.int .i64 a0_0, .int .i64 a0_1, (.slice A0_2 l0_2.length c0_2)] 24 (0, 0))) ∧ Asc (Below w.heap.size w w'))
 case atStart => exact ⟨(0), fr, H', ⟨Nat.le_refl _⟩, ⟨gB N0⟩, ⟨bh HB⟩⟩
 case round =>
  clear H'
  obtain ⟨a0, rfl, HA, V1, N0, HB⟩ := hrel
  cases gk with
  | zero => exact absurd HA.out (by simp [Fu.l0])
  | succ k1 =>
   have H := HA.out
   clear HA
   simp only [Fu.l0] at H
   by_cases c3 : a0 < (l0_2.length : Int)
   ·
    rw [if_pos c3] at H
    have P1 : decide (a0 < (l0_2.length : Int)) = true := decide_eq_true c3
    clear c3
    revert H
    refine gi (fun Y1 H => ?_)
    by_cases c5 : ((rd_T32 l0_2 a0).f1.f1) > 60
    ·
     rw [if_pos c5] at H
     have O1 : decide (60 < ((rd_T32 l0_2 a0).f1.f1)) = true := decide_eq_true c5
     clear c5
     obtain rfl := Option.some.inj H
     obtain ⟨_, _, _, _, _, _⟩ := bx3 N0
     have O0 : 0 ≤ (a0 : Int) := dt
     have P0 : a0 < (l0_2.length : Int) := dt
     obtain ⟨N1, D1, i1, Y0, C1, Z0, A0, I0, z0, M0, E0, u0, n0, L0, C0, o0, m0⟩ := at_T32 X0.out a0 O0 P0
     cases Z0
     replace A0 := ce HB A0
     replace I0 := ce HB I0
     replace z0 := ce HB z0
     replace M0 := ce HB M0
     replace E0 := ce HB E0
     replace u0 := ce HB u0
     replace n0 := ce HB n0
     have W0 := am_ C0
     have Q0 := am_ L0
     clear C0 L0
     have U0 := am_ m0
     have V0 := am_ o0
     clear m0 o0
     replace O0 := eq_true O0
     replace P0 := eq_true P0
     go_wp2
     go_ret
     exact ⟨fe, bh HB⟩
    rw [if_neg c5] at H
    have O1 : decide (60 < ((rd_T32 l0_2 a0).f1.f1)) = false := decide_eq_false c5
    clear c5
    have H' := am_ H
    clear H
    obtain ⟨_, _, _, _, _, _⟩ := bx3 N0
    have O0 : 0 ≤ (a0 : Int) := dt
    have P0 : a0 < (l0_2.length : Int) := dt
    obtain ⟨N1, D1, i1, Y0, C1, Z0, A0, I0, z0, M0, E0, u0, n0, L0, C0, o0, m0⟩ := at_T32 X0.out a0 O0 P0
    cases Z0
    replace A0 := ce HB A0
    replace I0 := ce HB I0
    replace z0 := ce HB z0
    replace M0 := ce HB M0
    replace E0 := ce HB E0
    replace u0 := ce HB u0
    replace n0 := ce HB n0
    have W0 := am_ C0
    have Q0 := am_ L0
    clear C0 L0
    have U0 := am_ m0
    have V0 := am_ o0
    clear m0 o0
    replace O0 := eq_true O0
    replace P0 := eq_true P0
    go_wp2
    go_roundg k1
    case measure => have := V1.out; omega
    case rel => exact ⟨(wrap64 (a0 + 1)), fr, H', kS V1, ⟨gB N0⟩, ⟨bh HB⟩⟩
   rw [if_neg c3] at H
   have P1 : decide (a0 < (l0_2.length : Int)) = false := decide_eq_false c3
   clear c3
   obtain rfl := Option.some.inj H
   obtain ⟨_, _, _, _, _, _⟩ := bx3 N0
   go_wp2
   go_ret
   exact ⟨fe, bh HB⟩

mutual
def F4.l0 : Nat → List (S76) → Int → Option (Bool)
 | 0, _, _ => none
 | k + 1, x0, x3 => if x3 < (x0.length : Int) then (if 0 ≤ x3 then (if ((rd_T76 x0 x3).f0) < 1 then (F4.j1 k x0 x3 true) else (F4.j1 k x0 x3 (decide (((rd_T76 x0 x3).f0) > 64)))) else (none)) else (some true)
def F4.j1 : Nat → List (S76) → Int → Bool → Option (Bool)
 | 0, _, _, _ => none
 | k + 1, x0, x3, a0 => if a0 = true then (some false) else (F4.l1 k x0 x3 0)
def F4.l1 : Nat → List (S76) → Int → Int → Option (Bool)
 | 0, _, _, _ => none
 | k + 1, x0, x3, x4 => if x4 < x3 then (if 0 ≤ x4 then (if x4 < (x0.length : Int) then (if 0 ≤ x3 then (if x3 < (x0.length : Int) then (if ((rd_T76 x0 x4).f0) = ((rd_T76 x0 x3).f0) then (some false) else (F4.l1 k x0 x3 (wrap64 (x4 + 1)))) else (none)) else (none)) else (none)) else (none)) else (F4.l0 k x0 (wrap64 (x3 + 1)))
end
def F4.f (k : Nat) (l0 : List (S76)) : Option (Bool) := if (l0.length : Int) > 64 then (some false) else (F4.l0 k l0 0)
set_option maxHeartbeats 8000000 in
set_option maxRecDepth 100000 in
theorem F4.calls (k : Nat) (A0 : Option Addr) (c0 : Nat) (l0 : List (S76)) (r : Bool) (w : World) (b3 : Kd.C k76 w A0 l0.length l0) (u3 : l0.length ≤ c0) (h : F4.f k l0 = some r) :
  Calls Tryz.prog 76 #[.slice A0 l0.length c0] w fun e w' => e = .returned (.bool r) ∧ Drawn0 w w' := by
 have D1 := am_ b3
 have L3 := am_ u3
 clear b3 u3
 have H : (if (l0.length : Int) > 64 then (some false) else (F4.l0 k l0 0)) = some r := h
 clear h
 by_cases c2 : (l0.length : Int) > 64
 ·
  rw [if_pos c2] at H
  have X1 : decide (64 < (l0.length : Int)) = true := decide_eq_true c2
  have C2 : decide (64 < l0.length) = true := decide_eq_true (by omega)
  clear c2
  obtain rfl := Option.some.inj H
  go_enter Tryz.func76, Tryz.ntmps76
  go_wp2
  repeat (go_quiet (fail); try go_wp2)
  go_ret
  exact ⟨fr, by repeat (first | exact Drawn0.refl _ | apply Drawn0.step)⟩
 rw [if_neg c2] at H
 have X1 : decide (64 < (l0.length : Int)) = false := decide_eq_false c2
 have C2 : decide (64 < l0.length) = false := decide_eq_false (by omega)
 clear c2
 have H' := am_ H
 clear H
 go_enter Tryz.func76, Tryz.ntmps76
 go_wp2
 repeat (go_quiet (fail); try go_wp2)
 go_loopg [3] k (fun kq v3 w' => ∃ (a0 : Int), v3 = .int .i64 a0 ∧ Asc (F4.l0 kq l0 a0 = some r) ∧ Asc (kq ≤ k) ∧ Drawn0 w w')
 case atStart => exact ⟨(0), fr, H', ⟨Nat.le_refl _⟩, by repeat (first | exact Drawn0.refl _ | apply Drawn0.step)⟩
 case round =>
  clear H'
  try clear X1 C2
  obtain ⟨a0, rfl, HA, Q1, ⟨m1, rfl⟩⟩ := hrel
  cases gk with
  | zero => exact absurd HA.out (by simp [F4.l0])
  | succ k1 =>
   have H := HA.out
   clear HA
   simp only [F4.l0] at H
   by_cases c3 : a0 < (l0.length : Int)
   ·
    rw [if_pos c3] at H
    have i2 : decide (a0 < (l0.length : Int)) = true := decide_eq_true c3
    clear c3
    have Y2 := am_ H
    clear H
    go_upto_region 6 with (fail)
    repeat (go_quiet (fail); go_upto_region 6 with (fail))
    go_cut [27] (fun I3 wc => ∃ (kq : Nat) (I0 : Bool), I3 = .bool I0 ∧ Asc (F4.j1 kq l0 a0 I0 = some r) ∧ Asc (kq ≤ k1) ∧ Drawn0 w wc)
    case first =>
     have H := Y2.out
     clear Y2
     revert H
     refine gi (fun U1 H => ?_)
     (first | rw [U1] | (simp only [i64_w, i32_w]; rw [U1]) | skip)
     by_cases c6 : ((rd_T76 l0 a0).f0) < 1
     ·
      rw [if_pos c6] at H
      have a3 : decide (((rd_T76 l0 a0).f0) < 1) = true := decide_eq_true c6
      clear c6
      have H' := am_ H
      clear H
      have o0 : 0 ≤ (a0 : Int) := dt
      have n0 : a0 < (l0.length : Int) := dt
      obtain ⟨Z0, N1, Y0, U0, X0⟩ := at_T76 D1.out a0 o0 n0
      cases N1
      replace o0 := eq_true o0
      replace n0 := eq_true n0
      go_wp2
      repeat (go_quiet (fail); try go_wp2)
      go_meet
      case rel => exact ⟨_, (true), fr, H', ⟨by have := Q1.out; first | omega | exact Nat.le_refl _⟩, by repeat (first | exact Drawn0.refl _ | apply Drawn0.step)⟩
     rw [if_neg c6] at H
     have a3 : decide (((rd_T76 l0 a0).f0) < 1) = false := decide_eq_false c6
     clear c6
     have H' := am_ H
     clear H
     have o0 : 0 ≤ (a0 : Int) := dt
     have n0 : a0 < (l0.length : Int) := dt
     obtain ⟨Z0, N1, Y0, U0, X0⟩ := at_T76 D1.out a0 o0 n0
     cases N1
     replace o0 := eq_true o0
     replace n0 := eq_true n0
     have i1 : 0 ≤ (a0 : Int) := dt
     have O1 : a0 < (l0.length : Int) := dt
     obtain ⟨V1, V2, J2, D2, Q2⟩ := at_T76 D1.out a0 i1 O1
     obtain rfl : Z0 = V1 := (by injection V2)
     replace i1 := eq_true i1
     replace O1 := eq_true O1
     go_wp2
     repeat (go_quiet (fail); try go_wp2)
     go_meet
     case rel => exact ⟨_, (decide (((rd_T76 l0 a0).f0) > 64)), fr, H', ⟨by have := Q1.out; first | omega | exact Nat.le_refl _⟩, by repeat (first | exact Drawn0.refl _ | apply Drawn0.step)⟩
    case rest =>
     clear Y2
     try clear i2
     obtain ⟨kq, I0, rfl, HA, L2, ⟨N3, rfl⟩⟩ := hcut
     cases kq with
     | zero => exact absurd HA.out (by simp [F4.j1])
     | succ D3 =>
      have H := HA.out
      clear HA
      simp only [F4.j1] at H
      by_cases c7 : I0 = true
      ·
       subst c7
       rw [if_pos rfl] at H
       obtain rfl := Option.some.inj H
       go_wp2
       repeat (go_quiet (fail); try go_wp2)
       go_ret
       exact ⟨fr, by repeat (first | exact Drawn0.refl _ | apply Drawn0.step)⟩
      replace c7 := Bool.eq_false_iff.mpr c7
      subst c7
      rw [if_neg (show ¬ (false = true) by decide)] at H
      have H' := am_ H
      clear H
      go_wp2
      repeat (go_quiet (fail); try go_wp2)
      go_loopg [4] D3 (fun kq v4 w' => ∃ (m0 : Int), v4 = .int .i64 m0 ∧ Asc (F4.l1 kq l0 a0 m0 = some r) ∧ Asc (kq ≤ D3) ∧ Drawn0 w w')
      case atStart => exact ⟨(0), fr, H', ⟨Nat.le_refl _⟩, by repeat (first | exact Drawn0.refl _ | apply Drawn0.step)⟩
      case round =>
       clear H'
       try clear c7
       obtain ⟨m0, rfl, HA, N2, ⟨m3, rfl⟩⟩ := hrel
       cases gk with
       | zero => exact absurd HA.out (by simp [F4.l1])
       | succ k3 =>
        have H := HA.out
        clear HA
        simp only [F4.l1] at H
        by_cases c8 : m0 < a0
        ·
         rw [if_pos c8] at H
         have Z2 : decide (m0 < a0) = true := decide_eq_true c8
         clear c8
         revert H
         refine gi (fun J3 H => ?_)
         revert H
         refine gi (fun i3 H => ?_)
         revert H
         refine gi (fun l3 H => ?_)
         revert H
         refine gi (fun C3 H => ?_)
         by_cases L1 : ((rd_T76 l0 m0).f0) = ((rd_T76 l0 a0).f0)
         ·
          rw [if_pos L1] at H
          have Z1 : (((rd_T76 l0 m0).f0) == ((rd_T76 l0 a0).f0)) = true := beq_iff_eq.mpr L1
          have Y1 : (((rd_T76 l0 m0).f0) != ((rd_T76 l0 a0).f0)) = false := bne_eq_false_iff_eq.mpr L1
          clear L1
          obtain rfl := Option.some.inj H
          have z0 : 0 ≤ (m0 : Int) := dt
          have E0 : m0 < (l0.length : Int) := dt
          obtain ⟨M0, P1, P0, Q0, N0⟩ := at_T76 D1.out m0 z0 E0
          cases P1
          replace z0 := eq_true z0
          replace E0 := eq_true E0
          have C0 : 0 ≤ (a0 : Int) := dt
          have u0 : a0 < (l0.length : Int) := dt
          obtain ⟨L0, C1, W0, O0, V0⟩ := at_T76 D1.out a0 C0 u0
          obtain rfl : M0 = L0 := (by injection C1)
          replace C0 := eq_true C0
          replace u0 := eq_true u0
          go_wp2
          repeat (go_quiet (fail); try go_wp2)
          go_ret
          exact ⟨fr, by repeat (first | exact Drawn0.refl _ | apply Drawn0.step)⟩
         rw [if_neg L1] at H
         have Z1 : (((rd_T76 l0 m0).f0) == ((rd_T76 l0 a0).f0)) = false := beq_eq_false_iff_ne.mpr L1
         have Y1 : (((rd_T76 l0 m0).f0) != ((rd_T76 l0 a0).f0)) = true := bne_iff_ne.mpr L1
         have H' := am_ H
         clear H
         have z0 : 0 ≤ (m0 : Int) := dt
         have E0 : m0 < (l0.length : Int) := dt
         obtain ⟨M0, P1, P0, Q0, N0⟩ := at_T76 D1.out m0 z0 E0
         cases P1
         replace z0 := eq_true z0
         replace E0 := eq_true E0
         have C0 : 0 ≤ (a0 : Int) := dt
         have u0 : a0 < (l0.length : Int) := dt
         obtain ⟨L0, C1, W0, O0, V0⟩ := at_T76 D1.out a0 C0 u0
         obtain rfl : M0 = L0 := (by injection C1)
         replace C0 := eq_true C0
         replace u0 := eq_true u0
         go_wp2
         repeat (go_quiet (fail); try go_wp2)
         go_roundg k3
         case measure => have := Q1.out; have := L2.out; have := N2.out; omega
         case rel => exact ⟨(wrap64 (m0 + 1)), fr, H', ⟨by have := Q1.out; have := L2.out; have := N2.out; omega⟩, by repeat (first | exact Drawn0.refl _ | apply Drawn0.step)⟩
        rw [if_neg c8] at H
        have Z2 : decide (m0 < a0) = false := decide_eq_false c8
        clear c8
        have H' := am_ H
        clear H
        go_wp2
        repeat (go_quiet (fail); try go_wp2)
        go_roundg k3
        case measure => have := Q1.out; have := L2.out; have := N2.out; omega
        case rel => exact ⟨(wrap64 (a0 + 1)), fr, H', ⟨by have := Q1.out; have := L2.out; have := N2.out; omega⟩, by repeat (first | exact Drawn0.refl _ | apply Drawn0.step)⟩
   rw [if_neg c3] at H
   have i2 : decide (a0 < (l0.length : Int)) = false := decide_eq_false c3
   clear c3
   obtain rfl := Option.some.inj H
   go_wp2
   repeat (go_quiet (fail); try go_wp2)
   go_ret
   exact ⟨fr, by repeat (first | exact Drawn0.refl _ | apply Drawn0.step)⟩

def Gg.f (a0_0 : Int) (a0_1 : Int) (a0 : Int) (m0 : Int) : Option (Int × Int) := (F1.f a0_0 a0_1).bind fun n0 => ((F1.f a0 m0).bind fun o0 => (if n0 = true then (if o0 = true then (some (Int.tmod (wrap64 ((wrap64 (a0_0 + 10007)) - a0)) 10007, Int.tmod (wrap64 ((wrap64 (a0_1 + 10007)) - m0)) 10007)) else (some (0, 0))) else (some (0, 0))))
set_option maxHeartbeats 8000000 in
set_option maxRecDepth 100000 in
theorem Gg.calls (a0_0 : Int) (a0_1 : Int) (C0 : Int) (A0 : Int) (r1 : Int) (r2 : Int) (w : World) (h : Gg.f a0_0 a0_1 C0 A0 = some (r1, r2)) :
  Calls Tryz.prog 100 #[.agg #[.int .i64 a0_0, .int .i64 a0_1], .agg #[.int .i64 C0, .int .i64 A0]] w fun e w' => e = .returned (.agg #[.int .i64 r1, .int .i64 r2]) ∧ Below w.heap.size w w' := by
 have D1 := Tryz.underlying28
 have HB := am_ (Below.refl w.heap.size w)
 have H : ((F1.f a0_0 a0_1).bind fun Z0 => ((F1.f C0 A0).bind fun N0 => (if Z0 = true then (if N0 = true then (some (Int.tmod (wrap64 ((wrap64 (a0_0 + 10007)) - C0)) 10007, Int.tmod (wrap64 ((wrap64 (a0_1 + 10007)) - A0)) 10007)) else (some (0, 0))) else (some (0, 0))))) = some (r1, r2) := h
 clear h
 replace H := Option.bind_eq_some_iff.mp H
 obtain ⟨Z0, C1, H⟩ := H
 try dsimp only at H
 have A3 := am_ C1
 clear C1
 replace H := Option.bind_eq_some_iff.mp H
 obtain ⟨N0, i1, H⟩ := H
 try dsimp only at H
 have A4 := am_ i1
 clear i1
 by_cases c5 : Z0 = true
 ·
  subst c5
  rw [if_pos rfl] at H
  by_cases c6 : N0 = true
  ·
   subst c6
   rw [if_pos rfl] at H
   simp only [Option.some.injEq, Prod.mk.injEq] at H
   obtain ⟨rfl, rfl⟩ := H
   go_enter Tryz.func100, Tryz.ntmps100
   go_wp2_with (first | ((with_reducible refine gd_ 2 ?_); refine be_ 2 #[.int .i64 a0_0, .int .i64 a0_1] 28 ?_; intro Y0 hg w7 hbox hb; have a0 := am_ hbox; have Q0 := tG HB hg; have X0 := tG HB hg; replace HB := tHb HB hb; clear hb hbox hg) | ((with_reducible refine gd_ 3 ?_); refine be_ 3 #[.int .i64 C0, .int .i64 A0] 28 ?_; intro W0 hg w8 hbox hb; have m0 := am_ hbox; have V0 := tG HB hg; have U0 := tG HB hg; replace HB := tHb HB hb; obtain ⟨u0, I0⟩ := tN a0 hg; replace a0 := tBb a0 hb; clear hb hbox hg) | ((with_reducible refine gd_ 4 ?_); refine be_ 4 #[.int .i64 0, .int .i64 0] 28 ?_; intro M0 hg w9 hbox hb; have n0 := am_ hbox; have P0 := tG HB hg; have O0 := tG HB hg; replace HB := tHb HB hb; obtain ⟨z0, E0⟩ := tN a0 hg; replace a0 := tBb a0 hb; obtain ⟨o0, L0⟩ := tN m0 hg; replace m0 := tBb m0 hb; clear hb hbox hg; obtain ⟨_, _⟩ := n2 u0; obtain ⟨_, _⟩ := n2 z0; obtain ⟨_, _, _, _⟩ := bx2 a0) | ((with_reducible refine gate_callee (f := 77) rfl ?_); refine gl_ (some 8) Tryz.func77 #[.agg #[.int .i64 a0_0, .int .i64 a0_1]] ?_; (with_reducible refine (F1.calls a0_0 a0_1 true _ A3.out).mono ?_); rintro e P1 ⟨rfl, hb⟩; refine ⟨_, rfl, ?_⟩; replace a0 := tBb a0 hb; replace m0 := tBb m0 hb; replace n0 := tBb n0 hb; replace HB := tHb HB hb; (try clear hb); obtain ⟨_, _⟩ := n2 o0; obtain ⟨_, _, _, _⟩ := bx2 m0) | ((with_reducible refine gate_callee (f := 77) rfl ?_); refine gl_ (some 10) Tryz.func77 #[.agg #[.int .i64 C0, .int .i64 A0]] ?_; (with_reducible refine (F1.calls C0 A0 true _ A4.out).mono ?_); rintro e w16 ⟨rfl, hb⟩; refine ⟨_, rfl, ?_⟩; replace a0 := tBb a0 hb; replace m0 := tBb m0 hb; replace n0 := tBb n0 hb; replace HB := tHb HB hb; (try clear hb); obtain ⟨_, _, _, _⟩ := bx2 a0; obtain ⟨_, _, _, _⟩ := bx2 m0; obtain ⟨_, _, _, _⟩ := bx2 n0))
   refine bodyPost_ret (results_cell_row rfl _ _ M0 28 #[.int .i64 (Int.tmod (wrap64 ((wrap64 (a0_0 + 10007)) - C0)) 10007), .int .i64 (Int.tmod (wrap64 ((wrap64 (a0_1 + 10007)) - A0)) 10007)] (0, 0) _ rfl (gP n0 rfl) Tryz.underlying28 rfl (by kernel_rfl)) rfl ?_
   exact ⟨fe, bh HB⟩
  replace c6 := Bool.eq_false_iff.mpr c6
  subst c6
  rw [if_neg (show ¬ (false = true) by decide)] at H
  simp only [Option.some.injEq, Prod.mk.injEq] at H
  obtain ⟨rfl, rfl⟩ := H
  go_enter Tryz.func100, Tryz.ntmps100
  go_wp2_with (first | ((with_reducible refine gd_ 2 ?_); refine be_ 2 #[.int .i64 a0_0, .int .i64 a0_1] 28 ?_; intro Y0 hg N1 hbox hb; have a0 := am_ hbox; have Q0 := tG HB hg; have X0 := tG HB hg; replace HB := tHb HB hb; clear hb hbox hg) | ((with_reducible refine gd_ 3 ?_); refine be_ 3 #[.int .i64 C0, .int .i64 A0] 28 ?_; intro W0 hg X1 hbox hb; have m0 := am_ hbox; have V0 := tG HB hg; have U0 := tG HB hg; replace HB := tHb HB hb; obtain ⟨u0, I0⟩ := tN a0 hg; replace a0 := tBb a0 hb; clear hb hbox hg) | ((with_reducible refine gd_ 4 ?_); refine be_ 4 #[.int .i64 0, .int .i64 0] 28 ?_; intro M0 hg Q1 hbox hb; have n0 := am_ hbox; have P0 := tG HB hg; have O0 := tG HB hg; replace HB := tHb HB hb; obtain ⟨z0, E0⟩ := tN a0 hg; replace a0 := tBb a0 hb; obtain ⟨o0, L0⟩ := tN m0 hg; replace m0 := tBb m0 hb; clear hb hbox hg; obtain ⟨_, _⟩ := n2 u0; obtain ⟨_, _⟩ := n2 z0; obtain ⟨_, _, _, _⟩ := bx2 a0) | ((with_reducible refine gate_callee (f := 77) rfl ?_); refine gl_ (some 8) Tryz.func77 #[.agg #[.int .i64 a0_0, .int .i64 a0_1]] ?_; (with_reducible refine (F1.calls a0_0 a0_1 true _ A3.out).mono ?_); rintro e Y1 ⟨rfl, hb⟩; refine ⟨_, rfl, ?_⟩; replace a0 := tBb a0 hb; replace m0 := tBb m0 hb; replace n0 := tBb n0 hb; replace HB := tHb HB hb; (try clear hb); obtain ⟨_, _⟩ := n2 o0; obtain ⟨_, _, _, _⟩ := bx2 m0) | ((with_reducible refine gate_callee (f := 77) rfl ?_); refine gl_ (some 10) Tryz.func77 #[.agg #[.int .i64 C0, .int .i64 A0]] ?_; (with_reducible refine (F1.calls C0 A0 false _ A4.out).mono ?_); rintro e L1 ⟨rfl, hb⟩; refine ⟨_, rfl, ?_⟩; replace a0 := tBb a0 hb; replace m0 := tBb m0 hb; replace n0 := tBb n0 hb; replace HB := tHb HB hb; (try clear hb); obtain ⟨_, _, _, _⟩ := bx2 n0))
  refine bodyPost_ret (results_cell_row rfl _ _ M0 28 #[.int .i64 0, .int .i64 0] (0, 0) _ rfl (gP n0 rfl) Tryz.underlying28 rfl (by kernel_rfl)) rfl ?_
  exact ⟨fe, bh HB⟩
 replace c5 := Bool.eq_false_iff.mpr c5
 subst c5
 rw [if_neg (show ¬ (false = true) by decide)] at H
 simp only [Option.some.injEq, Prod.mk.injEq] at H
 obtain ⟨rfl, rfl⟩ := H
 go_enter Tryz.func100, Tryz.ntmps100
 go_wp2_with (first | ((with_reducible refine gd_ 2 ?_); refine be_ 2 #[.int .i64 a0_0, .int .i64 a0_1] 28 ?_; intro Y0 hg O1 hbox hb; have a0 := am_ hbox; have Q0 := tG HB hg; have X0 := tG HB hg; replace HB := tHb HB hb; clear hb hbox hg) | ((with_reducible refine gd_ 3 ?_); refine be_ 3 #[.int .i64 C0, .int .i64 A0] 28 ?_; intro W0 hg U1 hbox hb; have m0 := am_ hbox; have V0 := tG HB hg; have U0 := tG HB hg; replace HB := tHb HB hb; obtain ⟨u0, I0⟩ := tN a0 hg; replace a0 := tBb a0 hb; clear hb hbox hg) | ((with_reducible refine gd_ 4 ?_); refine be_ 4 #[.int .i64 0, .int .i64 0] 28 ?_; intro M0 hg V1 hbox hb; have n0 := am_ hbox; have P0 := tG HB hg; have O0 := tG HB hg; replace HB := tHb HB hb; obtain ⟨z0, E0⟩ := tN a0 hg; replace a0 := tBb a0 hb; obtain ⟨o0, L0⟩ := tN m0 hg; replace m0 := tBb m0 hb; clear hb hbox hg; obtain ⟨_, _⟩ := n2 u0; obtain ⟨_, _⟩ := n2 z0; obtain ⟨_, _, _, _⟩ := bx2 a0) | ((with_reducible refine gate_callee (f := 77) rfl ?_); refine gl_ (some 8) Tryz.func77 #[.agg #[.int .i64 a0_0, .int .i64 a0_1]] ?_; (with_reducible refine (F1.calls a0_0 a0_1 false _ A3.out).mono ?_); rintro e i2 ⟨rfl, hb⟩; refine ⟨_, rfl, ?_⟩; replace a0 := tBb a0 hb; replace m0 := tBb m0 hb; replace n0 := tBb n0 hb; replace HB := tHb HB hb; (try clear hb); obtain ⟨_, _⟩ := n2 o0; obtain ⟨_, _, _, _⟩ := bx2 m0) | ((with_reducible refine gate_callee (f := 77) rfl ?_); refine gl_ (some 10) Tryz.func77 #[.agg #[.int .i64 C0, .int .i64 A0]] ?_; (with_reducible refine (F1.calls C0 A0 N0 _ A4.out).mono ?_); rintro e Z1 ⟨rfl, hb⟩; refine ⟨_, rfl, ?_⟩; replace a0 := tBb a0 hb; replace m0 := tBb m0 hb; replace n0 := tBb n0 hb; replace HB := tHb HB hb; (try clear hb); obtain ⟨_, _, _, _⟩ := bx2 n0))
 refine bodyPost_ret (results_cell_row rfl _ _ M0 28 #[.int .i64 0, .int .i64 0] (0, 0) _ rfl (gP n0 rfl) Tryz.underlying28 rfl (by kernel_rfl)) rfl ?_
 exact ⟨fe, bh HB⟩

def Fk.l0 : Nat → Int → Int → Int → Option (Int)
 | 0, _, _, _ => none
 | k + 1, x0, x3, x4 => if x4 > 0 then (if (Int.tmod x4 2) = 1 then (Fk.l0 k (Int.tmod (wrap64 (x0 * x0)) 10007) (Int.tmod (wrap64 (x3 * x0)) 10007) (wrap64 (Int.tdiv x4 2))) else (Fk.l0 k (Int.tmod (wrap64 (x0 * x0)) 10007) x3 (wrap64 (Int.tdiv x4 2)))) else (some x3)
def Fk.f (k : Nat) (a0 : Int) : Option (Int) := Fk.l0 k a0 1 10005
theorem Fk.mono_l : ∀ k, (∀ y0 y1 y2, LeO (Fk.l0 k y0 y1 y2) (Fk.l0 (k + 1) y0 y1 y2))
 | 0 => fun _ _ _ r h => by simp [Fk.l0] at h
 | k + 1 => by
  have a0 := Fk.mono_l k
  ·
   intro y0 y1 y2
   unfold Fk.l0
   repeat' first | (with_reducible first | exact a0 _ _ _ | exact LeO.refl _ | exact LeO.none _ | refine LeO.ite ?_ ?_ | refine LeO.bind ?_ (fun _ => ?_)) | exact a0 _ _ _ | refine LeO.ite ?_ ?_ | refine LeO.bind ?_ (fun _ => ?_)
theorem Fk.mono : ∀ a0 k, LeO (Fk.f k a0) (Fk.f (k + 1) a0) := by
 intro a0 k
 have m0 := Fk.mono_l k
 unfold Fk.f
 repeat' first | (with_reducible first | exact m0 _ _ _ | exact LeO.refl _ | exact LeO.none _ | refine LeO.ite ?_ ?_ | refine LeO.bind ?_ (fun _ => ?_)) | exact m0 _ _ _ | refine LeO.ite ?_ ?_ | refine LeO.bind ?_ (fun _ => ?_)
set_option maxHeartbeats 8000000 in
set_option maxRecDepth 100000 in
theorem Fk.calls (k : Nat) (a0 : Int) (r : Int) (w : World) (h : Fk.f k a0 = some r) :
  Calls Tryz.prog 113 #[.int .i64 a0] w fun e w' => e = .returned (.int .i64 r) ∧ Drawn0 w w' := by
 have H : (Fk.l0 k a0 1 10005) = some r := h
 clear h
 have H' := am_ H
 clear H
 go_enter Tryz.func113, Tryz.ntmps113
 go_wp2
 go_loopg [0, 3, 4] k (fun kq v0 v3 v4 w' => ∃ (n0 : Int) (o0 : Int) (m0 : Int), v0 = .int .i64 n0 ∧ v3 = .int .i64 o0 ∧ v4 = .int .i64 m0 ∧ Asc (Fk.l0 kq n0 o0 m0 = some r) ∧ Asc (kq ≤ k) ∧ Drawn0 w w')
 case atStart => exact ⟨(a0), (1), (10005), fr, fr, fr, H', ⟨Nat.le_refl _⟩, by repeat (first | exact Drawn0.refl _ | apply Drawn0.step)⟩
 case round =>
  clear H'
  obtain ⟨n0, o0, m0, rfl, rfl, rfl, HA, u0, ⟨m1, rfl⟩⟩ := hrel
  cases gk with
  | zero => exact absurd HA.out (by simp [Fk.l0])
  | succ k1 =>
   have H := HA.out
   clear HA
   simp only [Fk.l0] at H
   by_cases c2 : m0 > 0
   ·
    rw [if_pos c2] at H
    have A0 : decide (0 < m0) = true := decide_eq_true c2
    clear c2
    by_cases c3 : (Int.tmod m0 2) = 1
    ·
     rw [if_pos c3] at H
     have z0 : ((Int.tmod m0 2) == 1) = true := beq_iff_eq.mpr c3
     have C0 : ((Int.tmod m0 2) != 1) = false := bne_eq_false_iff_eq.mpr c3
     clear c3
     have H' := am_ H
     clear H
     go_wp2
     go_roundg k1
     case measure => have := u0.out; omega
     case rel => exact ⟨(Int.tmod (wrap64 (n0 * n0)) 10007), (Int.tmod (wrap64 (o0 * n0)) 10007), (wrap64 (Int.tdiv m0 2)), fr, fr, fr, H', kS u0, by repeat (first | exact Drawn0.refl _ | apply Drawn0.step)⟩
    rw [if_neg c3] at H
    have z0 : ((Int.tmod m0 2) == 1) = false := beq_eq_false_iff_ne.mpr c3
    have C0 : ((Int.tmod m0 2) != 1) = true := bne_iff_ne.mpr c3
    have H' := am_ H
    clear H
    go_wp2
    go_roundg k1
    case measure => have := u0.out; omega
    case rel => exact ⟨(Int.tmod (wrap64 (n0 * n0)) 10007), (o0), (wrap64 (Int.tdiv m0 2)), fr, fr, fr, H', kS u0, by repeat (first | exact Drawn0.refl _ | apply Drawn0.step)⟩
   rw [if_neg c2] at H
   have A0 : decide (0 < m0) = false := decide_eq_false c2
   clear c2
   obtain rfl := Option.some.inj H
   go_wp2
   go_ret
   exact ⟨fr, by repeat (first | exact Drawn0.refl _ | apply Drawn0.step)⟩

def Gy.f (a0_0 : Int) (a0_1 : Int) : Option (Int) := (F1.f a0_0 a0_1).bind fun a0 => (if a0 = true then (some (Int.tmod (wrap64 ((wrap64 (a0_0 * a0_0)) + (wrap64 (a0_1 * a0_1)))) 10007)) else (some 0))
set_option maxHeartbeats 8000000 in
set_option maxRecDepth 100000 in
theorem Gy.calls (a0_0 : Int) (a0_1 : Int) (r : Int) (w : World) (h : Gy.f a0_0 a0_1 = some r) :
  Calls Tryz.prog 114 #[.agg #[.int .i64 a0_0, .int .i64 a0_1]] w fun e w' => e = .returned (.int .i64 r) ∧ Below w.heap.size w w' := by
 have A0 := Tryz.underlying28
 have HB := am_ (Below.refl w.heap.size w)
 have H : ((F1.f a0_0 a0_1).bind fun m0 => (if m0 = true then (some (Int.tmod (wrap64 ((wrap64 (a0_0 * a0_0)) + (wrap64 (a0_1 * a0_1)))) 10007)) else (some 0))) = some r := h
 clear h
 replace H := Option.bind_eq_some_iff.mp H
 obtain ⟨m0, z0, H⟩ := H
 try dsimp only at H
 have A2 := am_ z0
 clear z0
 by_cases c3 : m0 = true
 ·
  subst c3
  rw [if_pos rfl] at H
  obtain rfl := Option.some.inj H
  go_enter Tryz.func114, Tryz.ntmps114
  go_wp2_with (first | ((with_reducible refine gd_ 1 ?_); refine be_ 1 #[.int .i64 a0_0, .int .i64 a0_1] 28 ?_; intro u0 hg w4 hbox hb; have a0 := am_ hbox; have n0 := tG HB hg; have o0 := tG HB hg; replace HB := tHb HB hb; clear hb hbox hg; obtain ⟨_, _, _, _⟩ := bx2 a0) | ((with_reducible refine gate_callee (f := 77) rfl ?_); refine gl_ (some 5) Tryz.func77 #[.agg #[.int .i64 a0_0, .int .i64 a0_1]] ?_; (with_reducible refine (F1.calls a0_0 a0_1 true _ A2.out).mono ?_); rintro e w6 ⟨rfl, hb⟩; refine ⟨_, rfl, ?_⟩; replace a0 := tBb a0 hb; replace HB := tHb HB hb; (try clear hb); obtain ⟨_, _, _, _⟩ := bx2 a0))
  go_ret
  exact ⟨fe, bh HB⟩
 replace c3 := Bool.eq_false_iff.mpr c3
 subst c3
 rw [if_neg (show ¬ (false = true) by decide)] at H
 obtain rfl := Option.some.inj H
 go_enter Tryz.func114, Tryz.ntmps114
 go_wp2_with (first | ((with_reducible refine gd_ 1 ?_); refine be_ 1 #[.int .i64 a0_0, .int .i64 a0_1] 28 ?_; intro u0 hg w8 hbox hb; have a0 := am_ hbox; have n0 := tG HB hg; have o0 := tG HB hg; replace HB := tHb HB hb; clear hb hbox hg; obtain ⟨_, _, _, _⟩ := bx2 a0) | ((with_reducible refine gate_callee (f := 77) rfl ?_); refine gl_ (some 5) Tryz.func77 #[.agg #[.int .i64 a0_0, .int .i64 a0_1]] ?_; (with_reducible refine (F1.calls a0_0 a0_1 false _ A2.out).mono ?_); rintro e C0 ⟨rfl, hb⟩; refine ⟨_, rfl, ?_⟩; replace a0 := tBb a0 hb; replace HB := tHb HB hb; (try clear hb)))
 go_ret
 exact ⟨fe, bh HB⟩

end Go.Proofs.YtopijobdblfhoaaGreat.PTuskAsks
