-- written by a program of this session (pp.py), out of the kit's print and this session's contracts
import Derived.Test.YtopijobdblfhoaaGreatPTuskAsksx0
import Derived.Test.YtopijobdblfhoaaGreatPTuskAsksx3
import Derived.Test.YtopijobdblfhoaaGreatPTuskAsksx4
import Derived.Test.YtopijobdblfhoaaGreatPTuskAsksx15
import Derived.Test.YtopijobdblfhoaaGreatPTuskAsksx18
import Derived.Test.YtopijobdblfhoaaGreatPTuskAsksx19
import Derived.Test.YtopijobdblfhoaaGreatPTuskAsksx21
import Derived.Test.YtopijobdblfhoaaGreatPTuskAsksx22
import Derived.Test.YtopijobdblfhoaaGreatVTuskAsksPi
namespace Go.Proofs.YtopijobdblfhoaaGreat.PTuskAsks
open Go.RowKit Go.Proofs.YtopijobdblfhoaaGreatW.PrintWords Go.Proofs.YtopijobdblfhoaaGreatW.PrintLast Go.Proofs.YtopijobdblfhoaaGreatW.PrintMore
set_option linter.unusedVariables false
set_option linter.unusedSimpArgs false

def Fz.j0 : Nat → Int → Bool → Bool → Int → Int → List (S32) → ByteArray → Int → Int → List (S107) → List ByteArray → Int → Int → Option (Bool)
 | 0, _, _, _, _, _, _, _, _, _, _, _, _, _ => none
 | k + 1, x1, x7, X0, a0, m0, n0, O0, M0, I0, E0, C0, N0, L0 => if X0 = true then (some x7) else ((Gb.f k a0 m0 n0 x1).bind fun A0 => ((Gc.f k a0 m0 n0 x1).bind fun z0 => ((Fy.f k a0 m0 n0 x1).bind fun o0 => ((H0.f k a0 m0 n0 x1).bind fun u0 => ((F6.f k (([(⟨A0.1, (⟨A0.2.1, A0.2.2.1, A0.2.2.2.1, A0.2.2.2.2.1, (⟨A0.2.2.2.2.2.1, A0.2.2.2.2.2.2.1⟩ : S28)⟩ : S30)⟩ : S32), (⟨o0.1, (⟨o0.2.1, o0.2.2.1, o0.2.2.2.1, o0.2.2.2.2.1, (⟨o0.2.2.2.2.2.1, o0.2.2.2.2.2.2.1⟩ : S28)⟩ : S30)⟩ : S32)] : List (S32))) (([(⟨z0.1, (⟨z0.2.1, z0.2.2.1, z0.2.2.2.1, z0.2.2.2.2.1, (⟨z0.2.2.2.2.2.1, z0.2.2.2.2.2.2.1⟩ : S28)⟩ : S30)⟩ : S32), (⟨u0.1, (⟨u0.2.1, u0.2.2.1, u0.2.2.2.1, u0.2.2.2.2.1, (⟨u0.2.2.2.2.2.1, u0.2.2.2.2.2.2.1⟩ : S28)⟩ : S30)⟩ : S32)] : List (S32)))).bind fun U0 => (if U0 = true then (if A0.2.2.2.2.2.2.2 = z0.2.2.2.2.2.2.2 then (if o0.2.2.2.2.2.2.2 = u0.2.2.2.2.2.2.2 then ((Ft.f k a0 m0 n0 O0 M0 I0 E0 C0 N0 L0).bind fun P0 => ((Fe.f k a0 m0 n0 O0 M0 I0 E0 C0 N0 L0).bind fun W0 => (if P0 = W0 then ((Fs.f k a0 m0 n0).bind fun Q0 => ((G0.f k a0 m0 n0).bind fun V0 => (some (Q0 == V0)))) else (some false)))) else (some false)) else (some false)) else (some false)))))))
def Fz.f (k : Nat) (a0_0 : Int) (a0_1 : Int) (l0_2 : List (S32)) (a1 : Int) (a2_0 : ByteArray) (a2_1 : Int) (a2_2 : Int) (l2_3 : List (S107)) (l2_4 : List ByteArray) (a2_5 : Int) (a2_6 : Int) : Option (Bool) := (Gq.f k).bind fun a0 => ((Fu.f k a0_0 a0_1 l0_2).bind fun m0 => (if a0 = true then (Fz.j0 k a1 a0 (!m0) a0_0 a0_1 l0_2 a2_0 a2_1 a2_2 l2_3 l2_4 a2_5 a2_6) else (Fz.j0 k a1 a0 true a0_0 a0_1 l0_2 a2_0 a2_1 a2_2 l2_3 l2_4 a2_5 a2_6)))
def Fz.T10 : Bool × List (List Nat × List Nat) := (true, [([], []), ([0], [0]), ([1], [1]), ([1], [1]), ([2, 3, 1], [1, 2, 3]), ([1, 4], [1, 4]), ([5, 1], [5]), ([6], [6]), ([6], [6]), ([7, 8, 6], [6, 7, 8]), ([6, 9], [6, 9]), ([10, 6], [10]), ([11], [11]), ([11], [11]), ([12, 13, 11, 11], [11, 12, 13]), ([11], [11]), ([11], [11]), ([15, 16, 14, 11], [11, 15, 16]), ([14, 17, 11], [11, 14, 17]), ([11, 18], [11, 18]), ([19, 17], [19]), ([20], [20]), ([21, 20, 20], [20, 21]), ([20], [20]), ([23, 22, 20], [20, 23]), ([22, 24, 20], [20, 22, 24]), ([20, 25], [20, 25]), ([26, 24, 0, 1, 2, 3, 4, 5, 6, 7, 8, 9, 10, 11, 12, 13, 14, 15, 16, 17, 18, 19, 20, 21, 22, 23, 24, 25, 26], [26])])
def Fz.B10 : List Nat := [0, 1, 3, 3, 15, 31, 63, 127, 127, 511, 1023, 2047, 4095, 4095, 16383, 4095, 4095, 131071, 262143, 524287, 1048575, 2097151, 4194303, 2097151, 16777215, 33554431, 67108863, 134217727]
theorem Fz.tab10 : rtab .any (opsOf Tryz.f3 10) = Fz.T10 := by kernel_rfl
theorem Fz.bits10 : waitsOk Fz.T10.2 Fz.B10 = true := by kernel_rfl
set_option maxHeartbeats 8000000 in
set_option maxRecDepth 100000 in
theorem Fz.calls (k : Nat) (a0_0 : Int) (a0_1 : Int) (A0_2 : Option Addr) (c0_2 : Nat) (l0_2 : List (S32)) (a1 : Int) (a2_0 : ByteArray) (a2_1 : Int) (a2_2 : Int) (A2_3 : Option Addr) (c2_3 : Nat) (l2_3 : List (S107)) (A2_4 : Option Addr) (c2_4 : Nat) (l2_4 : List ByteArray) (a2_5 : Int) (a2_6 : Int) (r : Bool) (hr_ : r = true) (w : World) (hr0_2 : Kd.C k32 w A0_2 l0_2.length l0_2) (hc0_2 : l0_2.length ≤ c0_2) (hr2_3 : Kd.C k107 w A2_3 l2_3.length l2_3) (hc2_3 : l2_3.length ≤ c2_3) (hr2_4 : Kd.C Kd.string w A2_4 l2_4.length l2_4) (hc2_4 : l2_4.length ≤ c2_4) (h : Fz.f k a0_0 a0_1 l0_2 a1 a2_0 a2_1 a2_2 l2_3 l2_4 a2_5 a2_6 = some r) :
  Calls Tryz.prog 3 #[.agg #[.int .i64 a0_0, .int .i64 a0_1, .slice A0_2 l0_2.length c0_2], .int .i64 a1, .agg #[.string a2_0, .int .i64 a2_1, .int .i64 a2_2, .slice A2_3 l2_3.length c2_3, .slice A2_4 l2_4.length c2_4, .int .i64 a2_5, .int .i64 a2_6]] w fun e w' => e = .returned (.bool r) ∧ Below w.heap.size w w' := by
 have HRT_ := am_ hr_
 clear hr_
 have f8 := Tryz.underlying24
 have i8 := Tryz.underlying32
 have N1 := am_ hr0_2
 have D1 := am_ hc0_2
 clear hr0_2 hc0_2
 have R5 := am_ hr2_3
 have P5 := am_ hc2_3
 clear hr2_3 hc2_3
 have W5 := am_ hr2_4
 have V5 := am_ hc2_4
 clear hr2_4 hc2_4
 have HB := am_ (Below.refl w.heap.size w)
 have H : ((Gq.f k).bind fun j4 => ((Fu.f k a0_0 a0_1 l0_2).bind fun c5 => (if j4 = true then (Fz.j0 k a1 j4 (!c5) a0_0 a0_1 l0_2 a2_0 a2_1 a2_2 l2_3 l2_4 a2_5 a2_6) else (Fz.j0 k a1 j4 true a0_0 a0_1 l0_2 a2_0 a2_1 a2_2 l2_3 l2_4 a2_5 a2_6)))) = some r := h
 clear h
 replace H := Option.bind_eq_some_iff.mp H
 obtain ⟨j4, C7, H⟩ := H
 try dsimp only at H
 have A4 := am_ C7
 clear C7
 replace H := Option.bind_eq_some_iff.mp H
 obtain ⟨c5, o7, H⟩ := H
 try dsimp only at H
 have A5 := am_ o7
 clear o7
 have i7 := am_ H
 clear H
 go_enter Tryz.func3, Tryz.ntmps3
 go_upto_region 3 with (first | ((with_reducible refine gd_ 3 ?_); refine be_ 3 #[.int .i64 a0_0, .int .i64 a0_1, .slice A0_2 l0_2.length c0_2] 24 ?_; intro u0 hg w7 hbox hb; have a0 := am_ hbox; have P1 := tG HB hg; have z7 := tG HB hg; replace HB := tHb HB hb; clear hb hbox hg) | ((with_reducible refine gd_ 5 ?_); refine be_ 5 #[.string a2_0, .int .i64 a2_1, .int .i64 a2_2, .slice A2_3 l2_3.length c2_3, .slice A2_4 l2_4.length c2_4, .int .i64 a2_5, .int .i64 a2_6] 32 ?_; intro o0 hg w8 hbox hb; have m0 := am_ hbox; have Q1 := tG HB hg; have M7 := tG HB hg; replace HB := tHb HB hb; obtain ⟨b3, c6⟩ := tN a0 hg; replace a0 := tBb a0 hb; clear hb hbox hg) | ((with_reducible refine gate_callee (f := 7) rfl ?_); refine gl_ (some 18) Tryz.func7 #[] ?_; (with_reducible refine (Gq.calls k  j4 _ A4.out).mono ?_); rintro e w9 ⟨rfl, hb⟩; refine ⟨_, rfl, ?_⟩; replace a0 := tBb a0 hb; replace m0 := tBb m0 hb; replace HB := tHb HB hb; (try clear hb); obtain ⟨_, _⟩ := n2 b3; obtain ⟨O6, U6, M6, C6, A6, S6⟩ := bx3 a0) | ((with_reducible refine gate_callee (f := 8) rfl ?_); refine gl_ (some 20) Tryz.func8 #[.agg #[.int .i64 a0_0, .int .i64 a0_1, .slice A0_2 l0_2.length c0_2]] ?_; (with_reducible refine (Fu.calls k a0_0 a0_1 _ _ l0_2 c5 _ ?Z0 ?C1 A5.out).mono ?_); (case Z0 => exact gCB N1 HB); (case C1 => exact D1.out); rintro e L8 ⟨rfl, hb⟩; refine ⟨_, rfl, ?_⟩; replace a0 := tBb a0 hb; replace m0 := tBb m0 hb; replace HB := tHb HB hb; (try clear hb)))
 (try simp only [Act.put, List.setIfInBounds_toArray, List.set_cons_zero, List.set_cons_succ])
 go_cut [26] (fun Z7 wc => ∃ (kq : Nat) (k4 : Bool), Z7 = .bool k4 ∧ Asc (Fz.j0 kq a1 j4 k4 a0_0 a0_1 l0_2 a2_0 a2_1 a2_2 l2_3 l2_4 a2_5 a2_6 = some r) ∧ Asc (kq ≤ k) ∧ Asc (wc.heap[u0]? = some (.cells #[.int .i64 a0_0, .int .i64 a0_1, (.slice A0_2 l0_2.length c0_2)] 24 (0, 0))) ∧ Asc (wc.heap[o0]? = some (.cells #[.string a2_0, .int .i64 a2_1, .int .i64 a2_2, (.slice A2_3 l2_3.length c2_3), (.slice A2_4 l2_4.length c2_4), .int .i64 a2_5, .int .i64 a2_6] 32 (0, 0))) ∧ Asc (Below w.heap.size w wc))
 case first =>
  have H := i7.out
  clear i7
  by_cases Y6 : j4 = true
  ·
   subst Y6
   rw [if_pos rfl] at H
   have H' := am_ H
   clear H
   go_wp2
   go_meet
   case rel => exact ⟨_, (!c5), fr, H', ⟨by first | omega | exact Nat.le_refl _⟩, ⟨gB a0⟩, ⟨gB m0⟩, ⟨bh HB⟩⟩
  replace Y6 := Bool.eq_false_iff.mpr Y6
  subst Y6
  rw [if_neg (show ¬ (false = true) by decide)] at H
  have H' := am_ H
  clear H
  go_wp2
  go_meet
  case rel => exact ⟨_, (true), fr, H', ⟨by first | omega | exact Nat.le_refl _⟩, ⟨gB a0⟩, ⟨gB m0⟩, ⟨bh HB⟩⟩
 case rest =>
  clear i7
  try clear O6 U6 M6 C6 A6 S6
  obtain ⟨kq, k4, rfl, HA, z8, a0, m0, HB⟩ := hcut
  cases kq with
  | zero => exact absurd HA.out (by simp [Fz.j0])
  | succ S3 =>
   have H := HA.out
   clear HA
   simp only [Fz.j0] at H
   by_cases X6 : k4 = true
   ·
    subst X6
    rw [if_pos rfl] at H
    obtain rfl := Option.some.inj H
    go_wp2
    go_ret
    exact ⟨fe, bh HB⟩
   replace X6 := Bool.eq_false_iff.mpr X6
   subst X6
   rw [if_neg (show ¬ (false = true) by decide)] at H
   replace H := Option.bind_eq_some_iff.mp H
   obtain ⟨⟨k3, I3, L3, V3, U3, m3, l3, L4⟩, P6, H⟩ := H
   try dsimp only at H
   have V7 := am_ P6
   clear P6
   replace H := Option.bind_eq_some_iff.mp H
   obtain ⟨⟨J2, Z1, Q2, D2, Y2, N2, C2, U4⟩, V6, H⟩ := H
   try dsimp only at H
   have S7 := am_ V6
   clear V6
   replace H := Option.bind_eq_some_iff.mp H
   obtain ⟨⟨Q3, J3, u3, D3, N3, C3, i3, N4⟩, N6, H⟩ := H
   try dsimp only at H
   have a8 := am_ N6
   clear N6
   replace H := Option.bind_eq_some_iff.mp H
   obtain ⟨⟨X1, V1, V2, Y1, i2, L2, Z2, I4⟩, L6, H⟩ := H
   try dsimp only at H
   have d8 := am_ L6
   clear L6
   obtain ⟨k5, i4⟩ : ∃ y_ : List (S32), y_ = (([(⟨k3, (⟨I3, L3, V3, U3, (⟨m3, l3⟩ : S28)⟩ : S30)⟩ : S32), (⟨Q3, (⟨J3, u3, D3, N3, (⟨C3, i3⟩ : S28)⟩ : S30)⟩ : S32)] : List (S32))) := ⟨_, rfl⟩
   replace H : ((F6.f S3 k5 (([(⟨J2, (⟨Z1, Q2, D2, Y2, (⟨N2, C2⟩ : S28)⟩ : S30)⟩ : S32), (⟨X1, (⟨V1, V2, Y1, i2, (⟨L2, Z2⟩ : S28)⟩ : S30)⟩ : S32)] : List (S32)))).bind fun X4 => (if X4 = true then (if L4 = U4 then (if N4 = I4 then ((Ft.f S3 a0_0 a0_1 l0_2 a2_0 a2_1 a2_2 l2_3 l2_4 a2_5 a2_6).bind fun W3 => ((Fe.f S3 a0_0 a0_1 l0_2 a2_0 a2_1 a2_2 l2_3 l2_4 a2_5 a2_6).bind fun Z3 => (if W3 = Z3 then ((Fs.f S3 a0_0 a0_1 l0_2).bind fun a5 => ((G0.f S3 a0_0 a0_1 l0_2).bind fun b5 => (some (a5 == b5)))) else (some false)))) else (some false)) else (some false)) else (some false))) = some r := by first | (rw [i4]; with_reducible exact H) | (have H := (Option.bind_some _ _).symm.trans H; first | (rw [i4]; with_reducible exact H) | with_reducible exact H) | with_reducible exact H | (rw [i4]; exact H) | exact H
   have U5 := am_ i4
   clear i4
   obtain ⟨X5, Y3⟩ : ∃ y_ : List (S32), y_ = (([(⟨J2, (⟨Z1, Q2, D2, Y2, (⟨N2, C2⟩ : S28)⟩ : S30)⟩ : S32), (⟨X1, (⟨V1, V2, Y1, i2, (⟨L2, Z2⟩ : S28)⟩ : S30)⟩ : S32)] : List (S32))) := ⟨_, rfl⟩
   replace H : ((F6.f S3 k5 X5).bind fun X4 => (if X4 = true then (if L4 = U4 then (if N4 = I4 then ((Ft.f S3 a0_0 a0_1 l0_2 a2_0 a2_1 a2_2 l2_3 l2_4 a2_5 a2_6).bind fun W3 => ((Fe.f S3 a0_0 a0_1 l0_2 a2_0 a2_1 a2_2 l2_3 l2_4 a2_5 a2_6).bind fun Z3 => (if W3 = Z3 then ((Fs.f S3 a0_0 a0_1 l0_2).bind fun a5 => ((G0.f S3 a0_0 a0_1 l0_2).bind fun b5 => (some (a5 == b5)))) else (some false)))) else (some false)) else (some false)) else (some false))) = some r := by first | (rw [Y3]; with_reducible exact H) | (have H := (Option.bind_some _ _).symm.trans H; first | (rw [Y3]; with_reducible exact H) | with_reducible exact H) | with_reducible exact H | (rw [Y3]; exact H) | exact H
   have S5 := am_ Y3
   clear Y3
   replace H := Option.bind_eq_some_iff.mp H
   obtain ⟨X4, J6, H⟩ := H
   try dsimp only at H
   have N7 := am_ J6
   clear J6
   by_cases W6 : X4 = true
   ·
    subst W6
    rw [if_pos rfl] at H
    by_cases I6 : L4 = U4
    ·
     rw [if_pos I6] at H
     have A7 : (L4 == U4) = true := beq_iff_eq.mpr I6
     have J7 : (L4 != U4) = false := bne_eq_false_iff_eq.mpr I6
     clear I6
     by_cases D6 : N4 = I4
     ·
      rw [if_pos D6] at H
      have l7 : (N4 == I4) = true := beq_iff_eq.mpr D6
      have s7 : (N4 != I4) = false := bne_eq_false_iff_eq.mpr D6
      clear D6
      replace H := Option.bind_eq_some_iff.mp H
      obtain ⟨W3, E6, H⟩ := H
      try dsimp only at H
      have P7 := am_ E6
      clear E6
      replace H := Option.bind_eq_some_iff.mp H
      obtain ⟨Z3, z6, H⟩ := H
      try dsimp only at H
      have g8 := am_ z6
      clear z6
      by_cases Q6 : W3 = Z3
      ·
       rw [if_pos Q6] at H
       have K7 : (W3 == Z3) = true := beq_iff_eq.mpr Q6
       have k7 : (W3 != Z3) = false := bne_eq_false_iff_eq.mpr Q6
       clear Q6
       replace H := Option.bind_eq_some_iff.mp H
       obtain ⟨a5, R6, H⟩ := H
       try dsimp only at H
       have W7 := am_ R6
       clear R6
       replace H := Option.bind_eq_some_iff.mp H
       obtain ⟨b5, K6, H⟩ := H
       try dsimp only at H
       have Q7 := am_ K6
       clear K6
       obtain rfl := Option.some.inj H
       obtain ⟨_, _⟩ := n2 b3
       obtain ⟨_, _, _, _, _, _⟩ := bx3 a0
       try go_wp2_with (first | ((with_reducible refine gate_callee (f := 9) rfl ?_); refine gl_ (some 31) Tryz.func9 #[.agg #[.int .i64 a0_0, .int .i64 a0_1, .slice A0_2 l0_2.length c0_2], .int .i64 a1] ?_; (with_reducible refine (Gb.calls S3 a0_0 a0_1 (fun k_ => k_ < w.heap.size) _ _ l0_2 a1 k3 I3 L3 V3 U3 m3 l3 L4 _ ?Z0 V7.out).mono ?_); (case Z0 => exact Kd.V_mk D1.out (Kd.F_below (Kd.C_F k32_heap N1.out) (bh HB))); rintro e A8 ⟨x8, k8, rfl, W4, Y4, hb⟩; refine ⟨_, rfl, ?_⟩; have I0 := lo (fun k_ => k_ ≠ u0 ∧ k_ ≠ o0) W4 (fun k_ hk_ => ⟨oe P1 a0 hk_, oe Q1 m0 hk_⟩) HB; have E0 := lo (fun k_ => k_ ≠ u0 ∧ k_ ≠ o0) Y4 (fun k_ hk_ => ⟨oe P1 a0 hk_, oe Q1 m0 hk_⟩) HB; replace a0 := tBb a0 hb; replace m0 := tBb m0 hb; replace HB := tHb HB hb; (try clear hb W4 Y4)) | ((with_reducible refine gd_ 9 ?_); refine be_ 9 #[.string (⟨#[]⟩ : ByteArray), .int .i64 0, .int .i64 0, .slice none 0 0, .slice none 0 0, .int .i64 0, .int .i64 0] 32 ?_; intro n0 hg l8 hbox hb; replace I0 := tVe I0 hg hb; replace E0 := tVe E0 hg hb; have A0 := am_ hbox; have a3 := tG HB hg; have D7 := tG HB hg; replace HB := tHb HB hb; obtain ⟨r6, Q4⟩ := tN a0 hg; replace a0 := tBb a0 hb; obtain ⟨s6, S4⟩ := tN m0 hg; replace m0 := tBb m0 hb; clear hb hbox hg; obtain ⟨_, _⟩ := n2 Q4; obtain ⟨_, _⟩ := n2 S4; obtain ⟨_, _, _, _, _, _, _, _, _, _, _, _, _, _⟩ := bx7 A0; obtain ⟨j5, i5, rfl⟩ := Kd.V_slice I0.out; obtain ⟨D5, p5, rfl⟩ := Kd.V_slice E0.out) | ((with_reducible refine gate_store (t := 32) (p := 9) rfl ?_); refine se_ 32 9 (((((((l8.setCell ⟨n0, 0, none⟩ (.string k3)).setCell ⟨n0, 1, none⟩ (.int .i64 I3)).setCell ⟨n0, 2, none⟩ (.int .i64 L3)).setCell ⟨n0, 3, none⟩ (.slice j5 V3.length i5)).setCell ⟨n0, 4, none⟩ (.slice D5 U3.length p5)).setCell ⟨n0, 5, none⟩ (.int .i64 m3)).setCell ⟨n0, 6, none⟩ (.int .i64 l3)) ?_; intro H8 hw; replace I0 := gVw (fun k_ => k_ ≠ u0 ∧ k_ ≠ o0 ∧ k_ ≠ n0) I0 hw; replace E0 := gVw (fun k_ => k_ ≠ u0 ∧ k_ ≠ o0 ∧ k_ ≠ n0) E0 hw; replace a0 := sB a0 hw; replace m0 := sB m0 hw; replace A0 := sP #[.string k3, .int .i64 I3, .int .i64 L3, .slice j5 V3.length i5, .slice D5 U3.length p5, .int .i64 m3, .int .i64 l3] A0 hw; replace HB := sH HB hw; clear hw; obtain ⟨_, _, _, _, _, _⟩ := bx3 a0) | ((with_reducible refine gate_callee (f := 10) rfl ?_); refine gl_ (some 37) Tryz.func10 #[.agg #[.int .i64 a0_0, .int .i64 a0_1, .slice A0_2 l0_2.length c0_2], .int .i64 a1] ?_; (with_reducible refine (Gc.calls S3 a0_0 a0_1 (fun k_ => k_ < w.heap.size) _ _ l0_2 a1 J2 Z1 Q2 D2 Y2 N2 C2 U4 _ ?Z0 S7.out).mono ?_); (case Z0 => exact Kd.V_mk D1.out (Kd.F_below (Kd.C_F k32_heap N1.out) (bh HB))); rintro e I8 ⟨m8, Y7, rfl, W4, Y4, hb⟩; refine ⟨_, rfl, ?_⟩; replace I0 := tVb I0 hb; replace E0 := tVb E0 hb; have O0 := lo (fun k_ => k_ ≠ u0 ∧ k_ ≠ o0 ∧ k_ ≠ n0) W4 (fun k_ hk_ => ⟨oe P1 a0 hk_, oe Q1 m0 hk_, oe a3 A0 hk_⟩) HB; have N0 := lo (fun k_ => k_ ≠ u0 ∧ k_ ≠ o0 ∧ k_ ≠ n0) Y4 (fun k_ hk_ => ⟨oe P1 a0 hk_, oe Q1 m0 hk_, oe a3 A0 hk_⟩) HB; replace a0 := tBb a0 hb; replace m0 := tBb m0 hb; replace A0 := tBb A0 hb; replace HB := tHb HB hb; (try clear hb W4 Y4)) | ((with_reducible refine gd_ 11 ?_); refine be_ 11 #[.string (⟨#[]⟩ : ByteArray), .int .i64 0, .int .i64 0, .slice none 0 0, .slice none 0 0, .int .i64 0, .int .i64 0] 32 ?_; intro z0 hg v8 hbox hb; replace I0 := tVe I0 hg hb; replace E0 := tVe E0 hg hb; replace O0 := tVe O0 hg hb; replace N0 := tVe N0 hg hb; have L0 := am_ hbox; have l4 := tG HB hg; have m7 := tG HB hg; replace HB := tHb HB hb; obtain ⟨Z5, K4⟩ := tN a0 hg; replace a0 := tBb a0 hb; obtain ⟨l6, J4⟩ := tN m0 hg; replace m0 := tBb m0 hb; obtain ⟨p6, P4⟩ := tN A0 hg; replace A0 := tBb A0 hb; clear hb hbox hg; obtain ⟨_, _⟩ := n2 K4; obtain ⟨_, _⟩ := n2 J4; obtain ⟨_, _⟩ := n2 P4; obtain ⟨_, _, _, _, _, _, _, _, _, _, _, _, _, _⟩ := bx7 L0; obtain ⟨m5, O5, rfl⟩ := Kd.V_slice O0.out; obtain ⟨M5, s5, rfl⟩ := Kd.V_slice N0.out) | ((with_reducible refine gate_store (t := 32) (p := 11) rfl ?_); refine se_ 32 11 (((((((v8.setCell ⟨z0, 0, none⟩ (.string J2)).setCell ⟨z0, 1, none⟩ (.int .i64 Z1)).setCell ⟨z0, 2, none⟩ (.int .i64 Q2)).setCell ⟨z0, 3, none⟩ (.slice m5 D2.length O5)).setCell ⟨z0, 4, none⟩ (.slice M5 Y2.length s5)).setCell ⟨z0, 5, none⟩ (.int .i64 N2)).setCell ⟨z0, 6, none⟩ (.int .i64 C2)) ?_; intro O8 hw; replace I0 := gVw (fun k_ => k_ ≠ u0 ∧ k_ ≠ o0 ∧ k_ ≠ n0 ∧ k_ ≠ z0) I0 hw; replace E0 := gVw (fun k_ => k_ ≠ u0 ∧ k_ ≠ o0 ∧ k_ ≠ n0 ∧ k_ ≠ z0) E0 hw; replace O0 := gVw (fun k_ => k_ ≠ u0 ∧ k_ ≠ o0 ∧ k_ ≠ n0 ∧ k_ ≠ z0) O0 hw; replace N0 := gVw (fun k_ => k_ ≠ u0 ∧ k_ ≠ o0 ∧ k_ ≠ n0 ∧ k_ ≠ z0) N0 hw; replace a0 := sB a0 hw; replace m0 := sB m0 hw; replace A0 := sB A0 hw; replace L0 := sP #[.string J2, .int .i64 Z1, .int .i64 Q2, .slice m5 D2.length O5, .slice M5 Y2.length s5, .int .i64 N2, .int .i64 C2] L0 hw; replace HB := sH HB hw; clear hw; obtain ⟨_, _, _, _, _, _⟩ := bx3 a0) | ((with_reducible refine gate_callee (f := 11) rfl ?_); refine gl_ (some 43) Tryz.func11 #[.agg #[.int .i64 a0_0, .int .i64 a0_1, .slice A0_2 l0_2.length c0_2], .int .i64 a1] ?_; (with_reducible refine (Fy.calls S3 a0_0 a0_1 (fun k_ => k_ < w.heap.size) _ _ l0_2 a1 Q3 J3 u3 D3 N3 C3 i3 N4 _ ?Z0 a8.out).mono ?_); (case Z0 => exact Kd.V_mk D1.out (Kd.F_below (Kd.C_F k32_heap N1.out) (bh HB))); rintro e D8 ⟨o8, p8, rfl, W4, Y4, hb⟩; refine ⟨_, rfl, ?_⟩; replace I0 := tVb I0 hb; replace E0 := tVb E0 hb; replace O0 := tVb O0 hb; replace N0 := tVb N0 hb; have U0 := lo (fun k_ => k_ ≠ u0 ∧ k_ ≠ o0 ∧ k_ ≠ n0 ∧ k_ ≠ z0) W4 (fun k_ hk_ => ⟨oe P1 a0 hk_, oe Q1 m0 hk_, oe a3 A0 hk_, oe l4 L0 hk_⟩) HB; have Q0 := lo (fun k_ => k_ ≠ u0 ∧ k_ ≠ o0 ∧ k_ ≠ n0 ∧ k_ ≠ z0) Y4 (fun k_ hk_ => ⟨oe P1 a0 hk_, oe Q1 m0 hk_, oe a3 A0 hk_, oe l4 L0 hk_⟩) HB; replace a0 := tBb a0 hb; replace m0 := tBb m0 hb; replace A0 := tBb A0 hb; replace L0 := tBb L0 hb; replace HB := tHb HB hb; (try clear hb W4 Y4)) | ((with_reducible refine gd_ 13 ?_); refine be_ 13 #[.string (⟨#[]⟩ : ByteArray), .int .i64 0, .int .i64 0, .slice none 0 0, .slice none 0 0, .int .i64 0, .int .i64 0] 32 ?_; intro C0 hg t8 hbox hb; replace I0 := tVe I0 hg hb; replace E0 := tVe E0 hg hb; replace O0 := tVe O0 hg hb; replace N0 := tVe N0 hg hb; replace U0 := tVe U0 hg hb; replace Q0 := tVe Q0 hg hb; have P0 := am_ hbox; have Q5 := tG HB hg; have t7 := tG HB hg; replace HB := tHb HB hb; obtain ⟨j6, D4⟩ := tN a0 hg; replace a0 := tBb a0 hb; obtain ⟨k6, O4⟩ := tN m0 hg; replace m0 := tBb m0 hb; obtain ⟨m6, C4⟩ := tN A0 hg; replace A0 := tBb A0 hb; obtain ⟨b6, s4⟩ := tN L0 hg; replace L0 := tBb L0 hb; clear hb hbox hg; obtain ⟨_, _⟩ := n2 D4; obtain ⟨_, _⟩ := n2 O4; obtain ⟨_, _⟩ := n2 C4; obtain ⟨_, _⟩ := n2 s4; obtain ⟨_, _, _, _, _, _, _, _, _, _, _, _, _, _⟩ := bx7 P0; obtain ⟨E5, L5, rfl⟩ := Kd.V_slice U0.out; obtain ⟨I5, C5, rfl⟩ := Kd.V_slice Q0.out) | ((with_reducible refine gate_store (t := 32) (p := 13) rfl ?_); refine se_ 32 13 (((((((t8.setCell ⟨C0, 0, none⟩ (.string Q3)).setCell ⟨C0, 1, none⟩ (.int .i64 J3)).setCell ⟨C0, 2, none⟩ (.int .i64 u3)).setCell ⟨C0, 3, none⟩ (.slice E5 D3.length L5)).setCell ⟨C0, 4, none⟩ (.slice I5 N3.length C5)).setCell ⟨C0, 5, none⟩ (.int .i64 C3)).setCell ⟨C0, 6, none⟩ (.int .i64 i3)) ?_; intro B8 hw; replace I0 := gVw (fun k_ => k_ ≠ u0 ∧ k_ ≠ o0 ∧ k_ ≠ n0 ∧ k_ ≠ z0 ∧ k_ ≠ C0) I0 hw; replace E0 := gVw (fun k_ => k_ ≠ u0 ∧ k_ ≠ o0 ∧ k_ ≠ n0 ∧ k_ ≠ z0 ∧ k_ ≠ C0) E0 hw; replace O0 := gVw (fun k_ => k_ ≠ u0 ∧ k_ ≠ o0 ∧ k_ ≠ n0 ∧ k_ ≠ z0 ∧ k_ ≠ C0) O0 hw; replace N0 := gVw (fun k_ => k_ ≠ u0 ∧ k_ ≠ o0 ∧ k_ ≠ n0 ∧ k_ ≠ z0 ∧ k_ ≠ C0) N0 hw; replace U0 := gVw (fun k_ => k_ ≠ u0 ∧ k_ ≠ o0 ∧ k_ ≠ n0 ∧ k_ ≠ z0 ∧ k_ ≠ C0) U0 hw; replace Q0 := gVw (fun k_ => k_ ≠ u0 ∧ k_ ≠ o0 ∧ k_ ≠ n0 ∧ k_ ≠ z0 ∧ k_ ≠ C0) Q0 hw; replace a0 := sB a0 hw; replace m0 := sB m0 hw; replace A0 := sB A0 hw; replace L0 := sB L0 hw; replace P0 := sP #[.string Q3, .int .i64 J3, .int .i64 u3, .slice E5 D3.length L5, .slice I5 N3.length C5, .int .i64 C3, .int .i64 i3] P0 hw; replace HB := sH HB hw; clear hw; obtain ⟨_, _, _, _, _, _⟩ := bx3 a0) | ((with_reducible refine gate_callee (f := 12) rfl ?_); refine gl_ (some 49) Tryz.func12 #[.agg #[.int .i64 a0_0, .int .i64 a0_1, .slice A0_2 l0_2.length c0_2], .int .i64 a1] ?_; (with_reducible refine (H0.calls S3 a0_0 a0_1 (fun k_ => k_ < w.heap.size) _ _ l0_2 a1 X1 V1 V2 Y1 i2 L2 Z2 I4 _ ?Z0 d8.out).mono ?_); (case Z0 => exact Kd.V_mk D1.out (Kd.F_below (Kd.C_F k32_heap N1.out) (bh HB))); rintro e P8 ⟨R7, U7, rfl, W4, Y4, hb⟩; refine ⟨_, rfl, ?_⟩; replace I0 := tVb I0 hb; replace E0 := tVb E0 hb; replace O0 := tVb O0 hb; replace N0 := tVb N0 hb; replace U0 := tVb U0 hb; replace Q0 := tVb Q0 hb; have V0 := lo (fun k_ => k_ ≠ u0 ∧ k_ ≠ o0 ∧ k_ ≠ n0 ∧ k_ ≠ z0 ∧ k_ ≠ C0) W4 (fun k_ hk_ => ⟨oe P1 a0 hk_, oe Q1 m0 hk_, oe a3 A0 hk_, oe l4 L0 hk_, oe Q5 P0 hk_⟩) HB; have W0 := lo (fun k_ => k_ ≠ u0 ∧ k_ ≠ o0 ∧ k_ ≠ n0 ∧ k_ ≠ z0 ∧ k_ ≠ C0) Y4 (fun k_ hk_ => ⟨oe P1 a0 hk_, oe Q1 m0 hk_, oe a3 A0 hk_, oe l4 L0 hk_, oe Q5 P0 hk_⟩) HB; replace a0 := tBb a0 hb; replace m0 := tBb m0 hb; replace A0 := tBb A0 hb; replace L0 := tBb L0 hb; replace P0 := tBb P0 hb; replace HB := tHb HB hb; (try clear hb W4 Y4)) | ((with_reducible refine gd_ 15 ?_); refine be_ 15 #[.string (⟨#[]⟩ : ByteArray), .int .i64 0, .int .i64 0, .slice none 0 0, .slice none 0 0, .int .i64 0, .int .i64 0] 32 ?_; intro M0 hg O7 hbox hb; replace I0 := tVe I0 hg hb; replace E0 := tVe E0 hg hb; replace O0 := tVe O0 hg hb; replace N0 := tVe N0 hg hb; replace U0 := tVe U0 hg hb; replace Q0 := tVe Q0 hg hb; replace V0 := tVe V0 hg hb; replace W0 := tVe W0 hg hb; have X0 := am_ hbox; have I7 := tG HB hg; have p7 := tG HB hg; replace HB := tHb HB hb; obtain ⟨a6, M4⟩ := tN a0 hg; replace a0 := tBb a0 hb; obtain ⟨q6, R4⟩ := tN m0 hg; replace m0 := tBb m0 hb; obtain ⟨o6, u4⟩ := tN A0 hg; replace A0 := tBb A0 hb; obtain ⟨Y5, m4⟩ := tN L0 hg; replace L0 := tBb L0 hb; obtain ⟨i6, E4⟩ := tN P0 hg; replace P0 := tBb P0 hb; clear hb hbox hg; obtain ⟨_, _⟩ := n2 M4; obtain ⟨_, _⟩ := n2 R4; obtain ⟨_, _⟩ := n2 u4; obtain ⟨_, _⟩ := n2 m4; obtain ⟨_, _⟩ := n2 E4; obtain ⟨_, _, _, _, _, _, _, _, _, _, _, _, _, _⟩ := bx7 X0; obtain ⟨l5, J5, rfl⟩ := Kd.V_slice V0.out; obtain ⟨N5, K5, rfl⟩ := Kd.V_slice W0.out) | ((with_reducible refine gate_store (t := 32) (p := 15) rfl ?_); refine se_ 32 15 (((((((O7.setCell ⟨M0, 0, none⟩ (.string X1)).setCell ⟨M0, 1, none⟩ (.int .i64 V1)).setCell ⟨M0, 2, none⟩ (.int .i64 V2)).setCell ⟨M0, 3, none⟩ (.slice l5 Y1.length J5)).setCell ⟨M0, 4, none⟩ (.slice N5 i2.length K5)).setCell ⟨M0, 5, none⟩ (.int .i64 L2)).setCell ⟨M0, 6, none⟩ (.int .i64 Z2)) ?_; intro b8 hw; replace I0 := gVw (fun k_ => k_ ≠ u0 ∧ k_ ≠ o0 ∧ k_ ≠ n0 ∧ k_ ≠ z0 ∧ k_ ≠ C0 ∧ k_ ≠ M0) I0 hw; replace E0 := gVw (fun k_ => k_ ≠ u0 ∧ k_ ≠ o0 ∧ k_ ≠ n0 ∧ k_ ≠ z0 ∧ k_ ≠ C0 ∧ k_ ≠ M0) E0 hw; replace O0 := gVw (fun k_ => k_ ≠ u0 ∧ k_ ≠ o0 ∧ k_ ≠ n0 ∧ k_ ≠ z0 ∧ k_ ≠ C0 ∧ k_ ≠ M0) O0 hw; replace N0 := gVw (fun k_ => k_ ≠ u0 ∧ k_ ≠ o0 ∧ k_ ≠ n0 ∧ k_ ≠ z0 ∧ k_ ≠ C0 ∧ k_ ≠ M0) N0 hw; replace U0 := gVw (fun k_ => k_ ≠ u0 ∧ k_ ≠ o0 ∧ k_ ≠ n0 ∧ k_ ≠ z0 ∧ k_ ≠ C0 ∧ k_ ≠ M0) U0 hw; replace Q0 := gVw (fun k_ => k_ ≠ u0 ∧ k_ ≠ o0 ∧ k_ ≠ n0 ∧ k_ ≠ z0 ∧ k_ ≠ C0 ∧ k_ ≠ M0) Q0 hw; replace V0 := gVw (fun k_ => k_ ≠ u0 ∧ k_ ≠ o0 ∧ k_ ≠ n0 ∧ k_ ≠ z0 ∧ k_ ≠ C0 ∧ k_ ≠ M0) V0 hw; replace W0 := gVw (fun k_ => k_ ≠ u0 ∧ k_ ≠ o0 ∧ k_ ≠ n0 ∧ k_ ≠ z0 ∧ k_ ≠ C0 ∧ k_ ≠ M0) W0 hw; replace a0 := sB a0 hw; replace m0 := sB m0 hw; replace A0 := sB A0 hw; replace L0 := sB L0 hw; replace P0 := sB P0 hw; replace X0 := sP #[.string X1, .int .i64 V1, .int .i64 V2, .slice l5 Y1.length J5, .slice N5 i2.length K5, .int .i64 L2, .int .i64 Z2] X0 hw; replace HB := sH HB hw; clear hw; obtain ⟨_, _, _, _, _, _, _, _, _, _, _, _, _, _⟩ := bx7 A0; obtain ⟨_, _, _, _, _, _, _, _, _, _, _, _, _, _⟩ := bx7 P0) | ((with_reducible refine gd_ 54 ?_); refine Kd.N_lit k32 _ 32 ?hg (N' := 54) ?hd (xs := ([(⟨k3, (⟨I3, L3, V3, U3, (⟨m3, l3⟩ : S28)⟩ : S30)⟩ : S32), (⟨Q3, (⟨J3, u3, D3, N3, (⟨C3, i3⟩ : S28)⟩ : S30)⟩ : S32)] : List (S32))) (inner := [.string k3, .int .i64 I3, .int .i64 L3, .slice j5 V3.length i5, .slice D5 U3.length p5, .int .i64 m3, .int .i64 l3, .string Q3, .int .i64 J3, .int .i64 u3, .slice E5 D3.length L5, .slice I5 N3.length C5, .int .i64 C3, .int .i64 i3]) (ok := (fun k_ => k_ ≠ u0 ∧ k_ ≠ o0 ∧ k_ ≠ n0 ∧ k_ ≠ z0 ∧ k_ ≠ C0 ∧ k_ ≠ M0)) (okp := (fun k_ => k_ ≠ u0 ∧ k_ ≠ o0 ∧ k_ ≠ n0 ∧ k_ ≠ z0 ∧ k_ ≠ C0 ∧ k_ ≠ M0)) ?hr ?hp (fun _ hk => hk) ((show ∀ k_, b8.heap.size ≤ k_ → (fun k_ => k_ ≠ u0 ∧ k_ ≠ o0 ∧ k_ ≠ n0 ∧ k_ ≠ z0 ∧ k_ ≠ C0 ∧ k_ ≠ M0) k_ from fun k_ hk => ⟨gFr a0 k_ hk, gFr m0 k_ hk, gFr A0 k_ hk, gFr L0 k_ hk, gFr P0 k_ hk, gFr X0 k_ hk⟩) _ (Nat.le_refl _)) (Below.refl _ _) (Nat.le_refl _) (by simp) ?_; (case hd => rfl); (case hg => rfl); (case hr => first | (go_simp; done) | (go_simp; rfl)); (case hp => exact (Reps.c7 (show Kd.FK k32 _ _ (⟨k3, (⟨I3, L3, V3, U3, (⟨m3, l3⟩ : S28)⟩ : S30)⟩ : S32) [.string k3, .int .i64 I3, .int .i64 L3, .slice j5 V3.length i5, .slice D5 U3.length p5, .int .i64 m3, .int .i64 l3] from (k32_mkF _ _ (⟨k3, (⟨I3, L3, V3, U3, (⟨m3, l3⟩ : S28)⟩ : S30)⟩ : S32) (Kd.V_reads' (Kd.V_mono (ok' := (fun k_ => k_ ≠ u0 ∧ k_ ≠ o0 ∧ k_ ≠ n0 ∧ k_ ≠ z0 ∧ k_ ≠ C0 ∧ k_ ≠ M0)) (I0.out) (fun k_ hk => ⟨hk.1, ⟨hk.2.1, ⟨hk.2.2.1, ⟨hk.2.2.2.1, ⟨hk.2.2.2.2.1, hk.2.2.2.2.2⟩⟩⟩⟩⟩))).2.1 (Kd.V_F (Kd.V_mono (ok' := (fun k_ => k_ ≠ u0 ∧ k_ ≠ o0 ∧ k_ ≠ n0 ∧ k_ ≠ z0 ∧ k_ ≠ C0 ∧ k_ ≠ M0)) (I0.out) (fun k_ hk => ⟨hk.1, ⟨hk.2.1, ⟨hk.2.2.1, ⟨hk.2.2.2.1, ⟨hk.2.2.2.2.1, hk.2.2.2.2.2⟩⟩⟩⟩⟩))) (Kd.V_reads' (Kd.V_mono (ok' := (fun k_ => k_ ≠ u0 ∧ k_ ≠ o0 ∧ k_ ≠ n0 ∧ k_ ≠ z0 ∧ k_ ≠ C0 ∧ k_ ≠ M0)) (E0.out) (fun k_ hk => ⟨hk.1, ⟨hk.2.1, ⟨hk.2.2.1, ⟨hk.2.2.2.1, ⟨hk.2.2.2.2.1, hk.2.2.2.2.2⟩⟩⟩⟩⟩))).2.1 (Kd.V_F (Kd.V_mono (ok' := (fun k_ => k_ ≠ u0 ∧ k_ ≠ o0 ∧ k_ ≠ n0 ∧ k_ ≠ z0 ∧ k_ ≠ C0 ∧ k_ ≠ M0)) (E0.out) (fun k_ hk => ⟨hk.1, ⟨hk.2.1, ⟨hk.2.2.1, ⟨hk.2.2.2.1, ⟨hk.2.2.2.2.1, hk.2.2.2.2.2⟩⟩⟩⟩⟩))))) (Reps.c7 (show Kd.FK k32 _ _ (⟨Q3, (⟨J3, u3, D3, N3, (⟨C3, i3⟩ : S28)⟩ : S30)⟩ : S32) [.string Q3, .int .i64 J3, .int .i64 u3, .slice E5 D3.length L5, .slice I5 N3.length C5, .int .i64 C3, .int .i64 i3] from (k32_mkF _ _ (⟨Q3, (⟨J3, u3, D3, N3, (⟨C3, i3⟩ : S28)⟩ : S30)⟩ : S32) (Kd.V_reads' (Kd.V_mono (ok' := (fun k_ => k_ ≠ u0 ∧ k_ ≠ o0 ∧ k_ ≠ n0 ∧ k_ ≠ z0 ∧ k_ ≠ C0 ∧ k_ ≠ M0)) (U0.out) (fun k_ hk => ⟨hk.1, ⟨hk.2.1, ⟨hk.2.2.1, ⟨hk.2.2.2.1, ⟨hk.2.2.2.2.1, hk.2.2.2.2.2⟩⟩⟩⟩⟩))).2.1 (Kd.V_F (Kd.V_mono (ok' := (fun k_ => k_ ≠ u0 ∧ k_ ≠ o0 ∧ k_ ≠ n0 ∧ k_ ≠ z0 ∧ k_ ≠ C0 ∧ k_ ≠ M0)) (U0.out) (fun k_ hk => ⟨hk.1, ⟨hk.2.1, ⟨hk.2.2.1, ⟨hk.2.2.2.1, ⟨hk.2.2.2.2.1, hk.2.2.2.2.2⟩⟩⟩⟩⟩))) (Kd.V_reads' (Kd.V_mono (ok' := (fun k_ => k_ ≠ u0 ∧ k_ ≠ o0 ∧ k_ ≠ n0 ∧ k_ ≠ z0 ∧ k_ ≠ C0 ∧ k_ ≠ M0)) (Q0.out) (fun k_ hk => ⟨hk.1, ⟨hk.2.1, ⟨hk.2.2.1, ⟨hk.2.2.2.1, ⟨hk.2.2.2.2.1, hk.2.2.2.2.2⟩⟩⟩⟩⟩))).2.1 (Kd.V_F (Kd.V_mono (ok' := (fun k_ => k_ ≠ u0 ∧ k_ ≠ o0 ∧ k_ ≠ n0 ∧ k_ ≠ z0 ∧ k_ ≠ C0 ∧ k_ ≠ M0)) (Q0.out) (fun k_ hk => ⟨hk.1, ⟨hk.2.1, ⟨hk.2.2.1, ⟨hk.2.2.2.1, ⟨hk.2.2.2.2.1, hk.2.2.2.2.2⟩⟩⟩⟩⟩))))) (Reps.none _ _)))); intro U1 q8 O1 hb hg_ hnew_; clear hg_ hnew_; (first | rw [← U5.out] at O1 | (simp only [Int.reduceToNat] at O1; rw [← U5.out] at O1)); replace I0 := am_ (Kd.V_elder' (hV I0) (Kd.N_base O1) hb); replace E0 := am_ (Kd.V_elder' (hV E0) (Kd.N_base O1) hb); replace O0 := am_ (Kd.V_elder' (hV O0) (Kd.N_base O1) hb); replace N0 := am_ (Kd.V_elder' (hV N0) (Kd.N_base O1) hb); replace U0 := am_ (Kd.V_elder' (hV U0) (Kd.N_base O1) hb); replace Q0 := am_ (Kd.V_elder' (hV Q0) (Kd.N_base O1) hb); replace V0 := am_ (Kd.V_elder' (hV V0) (Kd.N_base O1) hb); replace W0 := am_ (Kd.V_elder' (hV W0) (Kd.N_base O1) hb); have Y0 := am_ (Kd.N_lower O1 (below_size (bh HB))); replace a0 := tBb a0 hb; replace m0 := tBb m0 hb; replace A0 := tBb A0 hb; replace L0 := tBb L0 hb; replace P0 := tBb P0 hb; replace X0 := tBb X0 hb; replace HB := tHb HB hb; clear hb O1; obtain ⟨_, _, _, _, _, _, _, _, _, _, _, _, _, _⟩ := bx7 L0; obtain ⟨_, _, _, _, _, _, _, _, _, _, _, _, _, _⟩ := bx7 X0) | ((with_reducible refine gd_ 57 ?_); refine Kd.N_lit k32 _ 32 ?hg (N' := 57) ?hd (xs := ([(⟨J2, (⟨Z1, Q2, D2, Y2, (⟨N2, C2⟩ : S28)⟩ : S30)⟩ : S32), (⟨X1, (⟨V1, V2, Y1, i2, (⟨L2, Z2⟩ : S28)⟩ : S30)⟩ : S32)] : List (S32))) (inner := [.string J2, .int .i64 Z1, .int .i64 Q2, .slice m5 D2.length O5, .slice M5 Y2.length s5, .int .i64 N2, .int .i64 C2, .string X1, .int .i64 V1, .int .i64 V2, .slice l5 Y1.length J5, .slice N5 i2.length K5, .int .i64 L2, .int .i64 Z2]) (ok := (fun k_ => some k_ ≠ (U1 : Value).ownBlock ∧ k_ ≠ u0 ∧ k_ ≠ o0 ∧ k_ ≠ n0 ∧ k_ ≠ z0 ∧ k_ ≠ C0 ∧ k_ ≠ M0)) (okp := (fun k_ => some k_ ≠ (U1 : Value).ownBlock ∧ k_ ≠ u0 ∧ k_ ≠ o0 ∧ k_ ≠ n0 ∧ k_ ≠ z0 ∧ k_ ≠ C0 ∧ k_ ≠ M0)) ?hr ?hp (fun _ hk => hk) ((show ∀ k_, q8.heap.size ≤ k_ → (fun k_ => some k_ ≠ (U1 : Value).ownBlock ∧ k_ ≠ u0 ∧ k_ ≠ o0 ∧ k_ ≠ n0 ∧ k_ ≠ z0 ∧ k_ ≠ C0 ∧ k_ ≠ M0) k_ from fun k_ hk => ⟨Kd.fresh' (Kd.N_lt (hN Y0)) k_ hk, gFr a0 k_ hk, gFr m0 k_ hk, gFr A0 k_ hk, gFr L0 k_ hk, gFr P0 k_ hk, gFr X0 k_ hk⟩) _ (Nat.le_refl _)) (Below.refl _ _) (Nat.le_refl _) (by simp) ?_; (case hd => rfl); (case hg => rfl); (case hr => first | (go_simp; done) | (go_simp; rfl)); (case hp => exact (Reps.c7 (show Kd.FK k32 _ _ (⟨J2, (⟨Z1, Q2, D2, Y2, (⟨N2, C2⟩ : S28)⟩ : S30)⟩ : S32) [.string J2, .int .i64 Z1, .int .i64 Q2, .slice m5 D2.length O5, .slice M5 Y2.length s5, .int .i64 N2, .int .i64 C2] from (k32_mkF _ _ (⟨J2, (⟨Z1, Q2, D2, Y2, (⟨N2, C2⟩ : S28)⟩ : S30)⟩ : S32) (Kd.V_reads' (Kd.V_mono (ok' := (fun k_ => some k_ ≠ (U1 : Value).ownBlock ∧ k_ ≠ u0 ∧ k_ ≠ o0 ∧ k_ ≠ n0 ∧ k_ ≠ z0 ∧ k_ ≠ C0 ∧ k_ ≠ M0)) (O0.out) (fun k_ hk => ⟨hk.2, ⟨hk.1.1, ⟨hk.1.2.1, ⟨hk.1.2.2.1, ⟨hk.1.2.2.2.1, ⟨hk.1.2.2.2.2.1, hk.1.2.2.2.2.2⟩⟩⟩⟩⟩⟩))).2.1 (Kd.V_F (Kd.V_mono (ok' := (fun k_ => some k_ ≠ (U1 : Value).ownBlock ∧ k_ ≠ u0 ∧ k_ ≠ o0 ∧ k_ ≠ n0 ∧ k_ ≠ z0 ∧ k_ ≠ C0 ∧ k_ ≠ M0)) (O0.out) (fun k_ hk => ⟨hk.2, ⟨hk.1.1, ⟨hk.1.2.1, ⟨hk.1.2.2.1, ⟨hk.1.2.2.2.1, ⟨hk.1.2.2.2.2.1, hk.1.2.2.2.2.2⟩⟩⟩⟩⟩⟩))) (Kd.V_reads' (Kd.V_mono (ok' := (fun k_ => some k_ ≠ (U1 : Value).ownBlock ∧ k_ ≠ u0 ∧ k_ ≠ o0 ∧ k_ ≠ n0 ∧ k_ ≠ z0 ∧ k_ ≠ C0 ∧ k_ ≠ M0)) (N0.out) (fun k_ hk => ⟨hk.2, ⟨hk.1.1, ⟨hk.1.2.1, ⟨hk.1.2.2.1, ⟨hk.1.2.2.2.1, ⟨hk.1.2.2.2.2.1, hk.1.2.2.2.2.2⟩⟩⟩⟩⟩⟩))).2.1 (Kd.V_F (Kd.V_mono (ok' := (fun k_ => some k_ ≠ (U1 : Value).ownBlock ∧ k_ ≠ u0 ∧ k_ ≠ o0 ∧ k_ ≠ n0 ∧ k_ ≠ z0 ∧ k_ ≠ C0 ∧ k_ ≠ M0)) (N0.out) (fun k_ hk => ⟨hk.2, ⟨hk.1.1, ⟨hk.1.2.1, ⟨hk.1.2.2.1, ⟨hk.1.2.2.2.1, ⟨hk.1.2.2.2.2.1, hk.1.2.2.2.2.2⟩⟩⟩⟩⟩⟩))))) (Reps.c7 (show Kd.FK k32 _ _ (⟨X1, (⟨V1, V2, Y1, i2, (⟨L2, Z2⟩ : S28)⟩ : S30)⟩ : S32) [.string X1, .int .i64 V1, .int .i64 V2, .slice l5 Y1.length J5, .slice N5 i2.length K5, .int .i64 L2, .int .i64 Z2] from (k32_mkF _ _ (⟨X1, (⟨V1, V2, Y1, i2, (⟨L2, Z2⟩ : S28)⟩ : S30)⟩ : S32) (Kd.V_reads' (Kd.V_mono (ok' := (fun k_ => some k_ ≠ (U1 : Value).ownBlock ∧ k_ ≠ u0 ∧ k_ ≠ o0 ∧ k_ ≠ n0 ∧ k_ ≠ z0 ∧ k_ ≠ C0 ∧ k_ ≠ M0)) (V0.out) (fun k_ hk => ⟨hk.2, ⟨hk.1.1, ⟨hk.1.2.1, ⟨hk.1.2.2.1, ⟨hk.1.2.2.2.1, ⟨hk.1.2.2.2.2.1, hk.1.2.2.2.2.2⟩⟩⟩⟩⟩⟩))).2.1 (Kd.V_F (Kd.V_mono (ok' := (fun k_ => some k_ ≠ (U1 : Value).ownBlock ∧ k_ ≠ u0 ∧ k_ ≠ o0 ∧ k_ ≠ n0 ∧ k_ ≠ z0 ∧ k_ ≠ C0 ∧ k_ ≠ M0)) (V0.out) (fun k_ hk => ⟨hk.2, ⟨hk.1.1, ⟨hk.1.2.1, ⟨hk.1.2.2.1, ⟨hk.1.2.2.2.1, ⟨hk.1.2.2.2.2.1, hk.1.2.2.2.2.2⟩⟩⟩⟩⟩⟩))) (Kd.V_reads' (Kd.V_mono (ok' := (fun k_ => some k_ ≠ (U1 : Value).ownBlock ∧ k_ ≠ u0 ∧ k_ ≠ o0 ∧ k_ ≠ n0 ∧ k_ ≠ z0 ∧ k_ ≠ C0 ∧ k_ ≠ M0)) (W0.out) (fun k_ hk => ⟨hk.2, ⟨hk.1.1, ⟨hk.1.2.1, ⟨hk.1.2.2.1, ⟨hk.1.2.2.2.1, ⟨hk.1.2.2.2.2.1, hk.1.2.2.2.2.2⟩⟩⟩⟩⟩⟩))).2.1 (Kd.V_F (Kd.V_mono (ok' := (fun k_ => some k_ ≠ (U1 : Value).ownBlock ∧ k_ ≠ u0 ∧ k_ ≠ o0 ∧ k_ ≠ n0 ∧ k_ ≠ z0 ∧ k_ ≠ C0 ∧ k_ ≠ M0)) (W0.out) (fun k_ hk => ⟨hk.2, ⟨hk.1.1, ⟨hk.1.2.1, ⟨hk.1.2.2.1, ⟨hk.1.2.2.2.1, ⟨hk.1.2.2.2.2.1, hk.1.2.2.2.2.2⟩⟩⟩⟩⟩⟩))))) (Reps.none _ _)))); intro r8 E8 L1 hb hg_ hnew_; clear hg_ hnew_; (first | rw [← S5.out] at L1 | (simp only [Int.reduceToNat] at L1; rw [← S5.out] at L1)); replace I0 := am_ (Kd.V_elder' (hV I0) (Kd.N_base L1) hb); replace E0 := am_ (Kd.V_elder' (hV E0) (Kd.N_base L1) hb); replace O0 := am_ (Kd.V_elder' (hV O0) (Kd.N_base L1) hb); replace N0 := am_ (Kd.V_elder' (hV N0) (Kd.N_base L1) hb); replace U0 := am_ (Kd.V_elder' (hV U0) (Kd.N_base L1) hb); replace Q0 := am_ (Kd.V_elder' (hV Q0) (Kd.N_base L1) hb); replace V0 := am_ (Kd.V_elder' (hV V0) (Kd.N_base L1) hb); replace W0 := am_ (Kd.V_elder' (hV W0) (Kd.N_base L1) hb); replace Y0 := am_ (Kd.N_elder' (hN Y0) (Kd.N_base L1) hb); have i1 := am_ (Kd.N_lower L1 (below_size (bh HB))); replace a0 := tBb a0 hb; replace m0 := tBb m0 hb; replace A0 := tBb A0 hb; replace L0 := tBb L0 hb; replace P0 := tBb P0 hb; replace X0 := tBb X0 hb; replace HB := tHb HB hb; clear hb L1; obtain ⟨Z6, d7, g7⟩ := Kd.N_slice Y0.out; subst g7; obtain ⟨j7, a7, f7⟩ := Kd.N_slice i1.out; subst f7) | ((with_reducible refine gate_callee (f := 13) rfl ?_); refine gl_ (some 58) Tryz.func13 #[.slice Z6 k5.length d7, .slice j7 X5.length a7] ?_; (with_reducible refine (F6.calls S3 _ _ k5 _ _ X5 true _ ?Z0 ?C1 ?X3 ?a4 N7.out).mono ?_); (case Z0 => repeat (first | exact (Kd.N_reads' Y0.out).2.2 | (with_reducible refine Kd.C_alloc ?_ _) | (with_reducible refine Kd.C_drewN ?_ _) | (with_reducible refine Kd.C_drew ?_))); (case C1 => exact (Kd.N_reads' Y0.out).2.1); (case X3 => repeat (first | exact (Kd.N_reads' i1.out).2.2 | (with_reducible refine Kd.C_alloc ?_ _) | (with_reducible refine Kd.C_drewN ?_ _) | (with_reducible refine Kd.C_drew ?_))); (case a4 => exact (Kd.N_reads' i1.out).2.1); rintro e j8 ⟨rfl, hb⟩; refine ⟨_, rfl, ?_⟩; replace I0 := tVb I0 hb; replace E0 := tVb E0 hb; replace O0 := tVb O0 hb; replace N0 := tVb N0 hb; replace U0 := tVb U0 hb; replace Q0 := tVb Q0 hb; replace V0 := tVb V0 hb; replace W0 := tVb W0 hb; replace Y0 := tNb Y0 hb; replace i1 := tNb i1 hb; replace a0 := tBb a0 hb; replace m0 := tBb m0 hb; replace A0 := tBb A0 hb; replace L0 := tBb L0 hb; replace P0 := tBb P0 hb; replace X0 := tBb X0 hb; replace HB := tHb HB hb; (try clear hb)))
       replace I0 := am_ (Kd.V_drew I0.out)
       replace E0 := am_ (Kd.V_drew E0.out)
       replace O0 := am_ (Kd.V_drew O0.out)
       replace N0 := am_ (Kd.V_drew N0.out)
       replace U0 := am_ (Kd.V_drew U0.out)
       replace Q0 := am_ (Kd.V_drew Q0.out)
       replace V0 := am_ (Kd.V_drew V0.out)
       replace W0 := am_ (Kd.V_drew W0.out)
       replace Y0 := am_ (Kd.N_drew Y0.out)
       replace i1 := am_ (Kd.N_drew i1.out)
       replace a0 := am_ (blk_drew a0.out)
       replace m0 := am_ (blk_drew m0.out)
       replace A0 := am_ (blk_drew A0.out)
       replace L0 := am_ (blk_drew L0.out)
       replace P0 := am_ (blk_drew P0.out)
       replace X0 := am_ (blk_drew X0.out)
       replace HB := am_ (below_drew1 HB.out)
       refine st_ 28 [] (k3_ a0 (k7_ m0 ct)) (fun hHeld => ?_); refine with_tabW Fz.tab10 Fz.bits10 (fun HT_ HW_ => ?_)
       generalize j8.drew = K8 at I0 E0 O0 N0 U0 Q0 V0 W0 Y0 i1 a0 m0 A0 L0 P0 X0 HB hHeld ⊢
       refine pu_ 0 (some 59) 1 HT_ (h := ?_)
       refine pu_ 1 (some 60) 3 HT_ (h := ?_)
       refine pu_ 2 (some 61) 7 HT_ (h := ?_)
       refine pu_ 3 (some 62) 15 HT_ (h := ?_)
       refine pu_ 4 (some 63) 31 HT_ (h := ?_)
       refine pu_ 5 (some 64) 63 HT_ (h := ?_)
       refine pu_ 6 (some 65) 127 HT_ (h := ?_)
       refine pu_ 7 (some 66) 255 HT_ (h := ?_)
       refine pu_ 8 (some 67) 511 HT_ (h := ?_)
       refine pu_ 9 (some 68) 1023 HT_ (h := ?_)
       refine pu_ 10 (some 69) 2047 HT_ (h := ?_)
       refine pu_ 11 (some 70) 4095 HT_ (h := ?_)
       refine tk_ 12 (some 71) 8191 HT_ HW_ hHeld (h := ?_)
       refine tk_ 13 (some 72) 16383 HT_ HW_ hHeld (h := ?_)
       refine tk_ 15 (some 74) 49151 HT_ HW_ hHeld (h := ?_)
       refine tk_ 16 (some 75) 114687 HT_ HW_ hHeld (h := ?_)
       refine one_ (i := 14) (N := some 73) #[true, true, true, true, true, true, true, true, true, true, true, true, true, true, true, true, true, false, false, false, false, false, false, false, false, false, false, false] rfl rfl (one_of HT_.out (by kernel_rfl)) (by decide) (fun K hK => ?_)
       refine goes_ Tryz.func14 (by kernel_rfl) rfl #[.agg #[.int .i64 a0_0, .int .i64 a0_1, .slice A0_2 l0_2.length c0_2], .agg #[.string a2_0, .int .i64 a2_1, .int .i64 a2_2, .slice A2_3 l2_3.length c2_3, .slice A2_4 l2_4.length c2_4, .int .i64 a2_5, .int .i64 a2_6]] (by rfl) rfl rfl (by (try simp only [List.map_toArray, List.map_cons, List.map_nil]); first | done | rfl | (simp only [List.length_drop, List.length_take]; rfl)) ?_
       with_reducible refine (Ft.calls S3 a0_0 a0_1 _ _ l0_2 a2_0 a2_1 a2_2 _ _ l2_3 _ _ l2_4 a2_5 a2_6 W3 _ ?Z0 ?C1 ?X3 ?a4 ?V4 ?Z4 P7.out).mono ?_
       (case Z0 => exact gCB N1 HB)
       (case C1 => exact D1.out)
       (case X3 => exact gCB R5 HB)
       (case a4 => exact P5.out)
       (case V4 => exact gCB W5 HB)
       (case Z4 => exact V5.out)
       rintro e N8 ⟨rfl, hb⟩
       refine ⟨_, rfl, ?_⟩
       replace I0 := tVb I0 hb
       replace E0 := tVb E0 hb
       replace O0 := tVb O0 hb
       replace N0 := tVb N0 hb
       replace U0 := tVb U0 hb
       replace Q0 := tVb Q0 hb
       replace V0 := tVb V0 hb
       replace W0 := tVb W0 hb
       replace Y0 := tNb Y0 hb
       replace i1 := tNb i1 hb
       replace a0 := tBb a0 hb
       replace m0 := tBb m0 hb
       replace A0 := tBb A0 hb
       replace L0 := tBb L0 hb
       replace P0 := tBb P0 hb
       replace X0 := tBb X0 hb
       replace HB := tHb HB hb
       (try clear hb)
       (try clear hb2)
       (try clear hk)
       (try clear hi)
       refine hK.out _ _ (m3_ a0 (m7_ m0 ct)) (fun hHeld => ?_)
       clear hK K
       refine norm_ (a' := ?_) ?_ ?_
       rotate_left
       ·
        show Act.put _ (some 73) _ = _
        simp only [Act.put, List.setIfInBounds_toArray, List.set_cons_zero, List.set_cons_succ, i64_w, i32_w]
        rfl
       refine one_ (i := 17) (N := some 76) #[true, true, true, true, true, true, true, true, true, true, true, true, true, true, true, true, true, true, false, false, false, false, false, false, false, false, false, false] rfl rfl (one_of HT_.out (by kernel_rfl)) (by decide) (fun K hK => ?_)
       refine goes_ Tryz.func15 (by kernel_rfl) rfl #[.agg #[.int .i64 a0_0, .int .i64 a0_1, .slice A0_2 l0_2.length c0_2], .agg #[.string a2_0, .int .i64 a2_1, .int .i64 a2_2, .slice A2_3 l2_3.length c2_3, .slice A2_4 l2_4.length c2_4, .int .i64 a2_5, .int .i64 a2_6]] (by rfl) rfl rfl (by (try simp only [List.map_toArray, List.map_cons, List.map_nil]); first | done | rfl | (simp only [List.length_drop, List.length_take]; rfl)) ?_
       with_reducible refine (Fe.calls S3 a0_0 a0_1 _ _ l0_2 a2_0 a2_1 a2_2 _ _ l2_3 _ _ l2_4 a2_5 a2_6 Z3 _ ?Z0 ?C1 ?X3 ?a4 ?V4 ?Z4 g8.out).mono ?_
       (case Z0 => exact gCB N1 HB)
       (case C1 => exact D1.out)
       (case X3 => exact gCB R5 HB)
       (case a4 => exact P5.out)
       (case V4 => exact gCB W5 HB)
       (case Z4 => exact V5.out)
       rintro e J8 ⟨rfl, hb⟩
       refine ⟨_, rfl, ?_⟩
       replace I0 := tVb I0 hb
       replace E0 := tVb E0 hb
       replace O0 := tVb O0 hb
       replace N0 := tVb N0 hb
       replace U0 := tVb U0 hb
       replace Q0 := tVb Q0 hb
       replace V0 := tVb V0 hb
       replace W0 := tVb W0 hb
       replace Y0 := tNb Y0 hb
       replace i1 := tNb i1 hb
       replace a0 := tBb a0 hb
       replace m0 := tBb m0 hb
       replace A0 := tBb A0 hb
       replace L0 := tBb L0 hb
       replace P0 := tBb P0 hb
       replace X0 := tBb X0 hb
       replace HB := tHb HB hb
       (try clear hb)
       (try clear hb2)
       (try clear hk)
       (try clear hi)
       refine hK.out _ _ (m3_ a0 (m7_ m0 ct)) (fun hHeld => ?_)
       clear hK K
       refine norm_ (a' := ?_) ?_ ?_
       rotate_left
       ·
        show Act.put _ (some 76) _ = _
        simp only [Act.put, List.setIfInBounds_toArray, List.set_cons_zero, List.set_cons_succ, i64_w, i32_w]
        rfl
       refine pu_ 18 (some 77) 524287 HT_ (h := ?_)
       refine pu_ 19 (some 78) 1048575 HT_ (h := ?_)
       refine pu_ 20 (some 79) 2097151 HT_ (h := ?_)
       refine tk_ 21 (some 80) 4194303 HT_ HW_ hHeld (h := ?_)
       refine tk_ 23 (some 82) 12582911 HT_ HW_ hHeld (h := ?_)
       refine one_ (i := 22) (N := some 81) #[true, true, true, true, true, true, true, true, true, true, true, true, true, true, true, true, true, true, true, true, true, true, true, true, false, false, false, false] rfl rfl (one_of HT_.out (by kernel_rfl)) (by decide) (fun K hK => ?_)
       refine goes_ Tryz.func16 (by kernel_rfl) rfl #[.agg #[.int .i64 a0_0, .int .i64 a0_1, .slice A0_2 l0_2.length c0_2]] (by rfl) rfl rfl (by (try simp only [List.map_toArray, List.map_cons, List.map_nil]); first | done | rfl | (simp only [List.length_drop, List.length_take]; rfl)) ?_
       with_reducible refine (Fs.calls S3 a0_0 a0_1 _ _ l0_2 a5 _ ?Z0 ?C1 W7.out).mono ?_
       (case Z0 => exact gCB N1 HB)
       (case C1 => exact D1.out)
       rintro e C8 ⟨rfl, hb⟩
       refine ⟨_, rfl, ?_⟩
       replace I0 := tVb I0 hb
       replace E0 := tVb E0 hb
       replace O0 := tVb O0 hb
       replace N0 := tVb N0 hb
       replace U0 := tVb U0 hb
       replace Q0 := tVb Q0 hb
       replace V0 := tVb V0 hb
       replace W0 := tVb W0 hb
       replace Y0 := tNb Y0 hb
       replace i1 := tNb i1 hb
       replace a0 := tBb a0 hb
       replace m0 := tBb m0 hb
       replace A0 := tBb A0 hb
       replace L0 := tBb L0 hb
       replace P0 := tBb P0 hb
       replace X0 := tBb X0 hb
       replace HB := tHb HB hb
       (try clear hb)
       (try clear hb2)
       (try clear hk)
       (try clear hi)
       refine hK.out _ _ (m3_ a0 (m7_ m0 ct)) (fun hHeld => ?_)
       clear hK K
       refine norm_ (a' := ?_) ?_ ?_
       rotate_left
       ·
        show Act.put _ (some 81) _ = _
        simp only [Act.put, List.setIfInBounds_toArray, List.set_cons_zero, List.set_cons_succ, i64_w, i32_w]
        rfl
       refine one_ (i := 24) (N := some 83) #[true, true, true, true, true, true, true, true, true, true, true, true, true, true, true, true, true, true, true, true, true, true, true, true, true, false, false, false] rfl rfl (one_of HT_.out (by kernel_rfl)) (by decide) (fun K hK => ?_)
       refine goes_ Tryz.func17 (by kernel_rfl) rfl #[.agg #[.int .i64 a0_0, .int .i64 a0_1, .slice A0_2 l0_2.length c0_2]] (by rfl) rfl rfl (by (try simp only [List.map_toArray, List.map_cons, List.map_nil]); first | done | rfl | (simp only [List.length_drop, List.length_take]; rfl)) ?_
       with_reducible refine (G0.calls S3 a0_0 a0_1 _ _ l0_2 b5 _ ?Z0 ?C1 Q7.out).mono ?_
       (case Z0 => exact gCB N1 HB)
       (case C1 => exact D1.out)
       rintro e M8 ⟨rfl, hb⟩
       refine ⟨_, rfl, ?_⟩
       replace I0 := tVb I0 hb
       replace E0 := tVb E0 hb
       replace O0 := tVb O0 hb
       replace N0 := tVb N0 hb
       replace U0 := tVb U0 hb
       replace Q0 := tVb Q0 hb
       replace V0 := tVb V0 hb
       replace W0 := tVb W0 hb
       replace Y0 := tNb Y0 hb
       replace i1 := tNb i1 hb
       replace a0 := tBb a0 hb
       replace m0 := tBb m0 hb
       replace A0 := tBb A0 hb
       replace L0 := tBb L0 hb
       replace P0 := tBb P0 hb
       replace X0 := tBb X0 hb
       replace HB := tHb HB hb
       (try clear hb)
       (try clear hb2)
       (try clear hk)
       (try clear hi)
       refine hK.out _ _ (m3_ a0 (m7_ m0 ct)) (fun hHeld => ?_)
       clear hK K
       refine norm_ (a' := ?_) ?_ ?_
       rotate_left
       ·
        show Act.put _ (some 83) _ = _
        simp only [Act.put, List.setIfInBounds_toArray, List.set_cons_zero, List.set_cons_succ, i64_w, i32_w]
        rfl
       refine pu_ 25 (some 84) 67108863 HT_ (h := ?_)
       refine pu_ 26 (some 85) 134217727 HT_ (h := ?_)
       refine pu_ 27 (some 6) 268435455 HT_ (h := ?_)
       refine done_ (done_of HT_.out (by kernel_rfl)) ?_
       try go_wp2
       go_ret
       exact ⟨fe, bh HB⟩
      rw [if_neg Q6] at H
      exact absurd ((Option.some.inj H).trans HRT_.out) (by decide)
     rw [if_neg D6] at H
     exact absurd ((Option.some.inj H).trans HRT_.out) (by decide)
    rw [if_neg I6] at H
    exact absurd ((Option.some.inj H).trans HRT_.out) (by decide)
   replace W6 := Bool.eq_false_iff.mpr W6
   subst W6
   have H1 : (some false) = some r := by rw [if_neg (show ¬ (false = true) by decide)] at H; exact H
   exact absurd ((Option.some.inj H1).trans HRT_.out) (by decide)

end Go.Proofs.YtopijobdblfhoaaGreat.PTuskAsks
