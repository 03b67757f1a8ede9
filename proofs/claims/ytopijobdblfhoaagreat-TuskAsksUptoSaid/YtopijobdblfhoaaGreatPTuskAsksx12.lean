-- written by a program of this session (pp.py), out of the kit's print and this session's contracts
import Derived.Test.YtopijobdblfhoaaGreatPTuskAsksx0
import Derived.Test.YtopijobdblfhoaaGreatPTuskAsksx6
import Derived.Test.YtopijobdblfhoaaGreatPTuskAsksx10
import Derived.Test.YtopijobdblfhoaaGreatPTuskAsksx11
import Derived.Test.YtopijobdblfhoaaGreatVTuskAsksPi
namespace Go.Proofs.YtopijobdblfhoaaGreat.PTuskAsks
open Go.RowKit Go.Proofs.YtopijobdblfhoaaGreatW.PrintWords Go.Proofs.YtopijobdblfhoaaGreatW.PrintLast Go.Proofs.YtopijobdblfhoaaGreatW.PrintMore
set_option linter.unusedVariables false
set_option linter.unusedSimpArgs false

def Fn.l0 : Nat → ByteArray → Int → Int → Int → List (S32) → Int → Int → List (S107) → List ByteArray → Int → Int → Option (Int × Int × (List (S32)) × Int)
 | 0, _, _, _, _, _, _, _, _, _, _, _ => none
 | k + 1, x6, I0, C0, E0, a0, m0, u0, n0, A0, o0, z0 => if I0 < (a0.length : Int) then (if 0 ≤ I0 then ((H7.f m0 u0 n0 A0 o0 z0 ((rd_T32 a0 I0).f1.f0) ((rd_T32 a0 I0).f1.f1) ((rd_T32 a0 I0).f1.f2) ((rd_T32 a0 I0).f1.f3) ((rd_T32 a0 I0).f1.f4.f0) ((rd_T32 a0 I0).f1.f4.f1)).bind fun Q0 => (if Q0 = true then (none) else (Fn.l0 k x6 (wrap64 (I0 + 1)) C0 E0 a0 m0 u0 n0 A0 o0 z0))) else (none)) else ((some (([] : List (S32)) : List (S32))).bind fun M0 => (if 0 ≤ I0 then (if I0 ≤ (a0.length : Int) then ((some (a0.take (I0 : Int).toNat : List (S32))).bind fun P0 => (if M0.length + P0.length < 1466015503701 then ((some (M0 ++ P0 : List (S32))).bind fun L0 => (if L0.length < 1466015503701 then ((some (L0 ++ [(⟨x6, (⟨m0, u0, n0, A0, (⟨o0, z0⟩ : S28)⟩ : S30)⟩ : S32)] : List (S32))).bind fun N0 => ((some (a0.drop (I0 : Int).toNat : List (S32))).bind fun O0 => (if N0.length + O0.length < 1466015503701 then (some (C0, E0, (N0 ++ O0), 0)) else (none)))) else (none))) else (none))) else (none)) else (none)))
def Fn.f (k : Nat) (a0_0 : Int) (a0_1 : Int) (l0_2 : List (S32)) (n0 : Int) (a0 : Int) (A0 : List (S107)) (u0 : List ByteArray) (o0 : Int) (z0 : Int) : Option (Int × Int × (List (S32)) × Int) := (Gf.f k n0 a0 A0 u0 o0 z0 a0_0).bind fun m0 => (if m0.2 = 0 then (if a0 ≤ a0_1 then (none) else ((Fr.f k a0_0 a0_1 l0_2 m0.1).bind fun C0 => (if C0.2.2.2.2.2.2.2 = true then (none) else ((Fb.f k a0_0 a0_1 l0_2 n0 a0).bind fun E0 => (if E0.2.2.2.2.2.2.2 = true then (none) else ((Fc.f k a0_0 a0_1 l0_2 n0 a0 A0 u0 o0 z0).bind fun I0 => (if (I0.length : Int) > 0 then (none) else (Fn.l0 k m0.1 0 a0_0 a0_1 l0_2 n0 a0 A0 u0 o0 z0)))))))) else (none))
theorem Fn.mono_l : ∀ k, (∀ y0 y1 y2 y3 y4 y5 y6 y7 y8 y9 a0, LeO (Fn.l0 k y0 y1 y2 y3 y4 y5 y6 y7 y8 y9 a0) (Fn.l0 (k + 1) y0 y1 y2 y3 y4 y5 y6 y7 y8 y9 a0))
 | 0 => fun _ _ _ _ _ _ _ _ _ _ _ r h => by simp [Fn.l0] at h
 | k + 1 => by
  have m0 := Fn.mono_l k
  ·
   intro y0 y1 y2 y3 y4 y5 y6 y7 y8 y9 a0
   unfold Fn.l0
   repeat' first | (with_reducible first | exact m0 _ _ _ _ _ _ _ _ _ _ _ | exact Gf.mono _ _ _ _ _ _ _ _ | exact Fb.mono _ _ _ _ _ _ | exact Fr.mono _ _ _ _ _ | exact Fc.mono _ _ _ _ _ _ _ _ _ _ | exact LeO.refl _ | exact LeO.none _ | refine LeO.ite ?_ ?_ | refine LeO.bind ?_ (fun _ => ?_)) | exact m0 _ _ _ _ _ _ _ _ _ _ _ | refine LeO.ite ?_ ?_ | refine LeO.bind ?_ (fun _ => ?_)
theorem Fn.mono : ∀ a0 a1 a2 a3 a4 a5 a6 a7 a8 k, LeO (Fn.f k a0 a1 a2 a3 a4 a5 a6 a7 a8) (Fn.f (k + 1) a0 a1 a2 a3 a4 a5 a6 a7 a8) := by
 intro a0 a1 a2 a3 a4 a5 a6 a7 a8 k
 have m0 := Fn.mono_l k
 unfold Fn.f
 repeat' first | (with_reducible first | exact m0 _ _ _ _ _ _ _ _ _ _ _ | exact Gf.mono _ _ _ _ _ _ _ _ | exact Fb.mono _ _ _ _ _ _ | exact Fr.mono _ _ _ _ _ | exact Fc.mono _ _ _ _ _ _ _ _ _ _ | exact LeO.refl _ | exact LeO.none _ | refine LeO.ite ?_ ?_ | refine LeO.bind ?_ (fun _ => ?_)) | exact m0 _ _ _ _ _ _ _ _ _ _ _ | refine LeO.ite ?_ ?_ | refine LeO.bind ?_ (fun _ => ?_)
def Fn.T16 : Bool × List (List Nat × List Nat) := (true, [([], []), ([], []), ([1], [1]), ([2], [2]), ([0, 3], [0, 3]), ([4], [4]), ([5], [5]), ([5], [5]), ([7, 5], [5, 7]), ([5], [5]), ([8, 9, 5], [5, 8, 9]), ([10, 5], [5, 10]), ([11, 5], [5, 11]), ([6, 12, 5, 5], [5, 6, 12]), ([13, 5], [5, 13]), ([5, 14], [5, 14])])
def Fn.B16 : List Nat := [0, 0, 2, 6, 15, 31, 63, 63, 191, 63, 959, 1983, 4031, 8191, 16383, 32767]
theorem Fn.tab16 : rtab .any (opsOf Tryz.f25 16) = Fn.T16 := by kernel_rfl
theorem Fn.bits16 : waitsOk Fn.T16.2 Fn.B16 = true := by kernel_rfl
set_option maxHeartbeats 8000000 in
set_option maxRecDepth 100000 in
theorem Fn.calls (k : Nat) (a0_0 : Int) (a0_1 : Int) (z0 : Nat → Prop) (A0_2 : Option Addr) (c0_2 : Nat) (l0_2 : List (S32)) (Y0 : Int) (X0 : Int) (u0 : Nat → Prop) (Y2 : Option Addr) (X1 : Nat) (W0 : List (S107)) (A0 : Nat → Prop) (J2 : Option Addr) (V1 : Nat) (V0 : List ByteArray) (C1 : Int) (i1 : Int) (r1 : Int) (r2 : Int) (r3 : List (S32)) (r4 : Int) (w : World) (cA : Kd.V k32 32 w w.heap.size (fun k_ => z0 k_) (.slice A0_2 l0_2.length c0_2) l0_2) (U9 : Kd.V k107 107 w w.heap.size (fun k_ => u0 k_) (.slice Y2 W0.length X1) W0) (Z9 : Kd.V Kd.string 9 w w.heap.size (fun k_ => A0 k_) (.slice J2 V0.length V1) V0) (h : Fn.f k a0_0 a0_1 l0_2 Y0 X0 W0 V0 C1 i1 = some (r1, r2, r3, r4)) :
  Calls Tryz.prog 25 #[.agg #[.int .i64 a0_0, .int .i64 a0_1, .slice A0_2 l0_2.length c0_2], .agg #[.int .i64 Y0, .int .i64 X0, .slice Y2 W0.length X1, .slice J2 V0.length V1, .int .i64 C1, .int .i64 i1]] w fun e w' => ∃ pC : Value, e = .returned (.tuple #[.agg #[.int .i64 r1, .int .i64 r2, pC], .int .i64 r4]) ∧ Kd.V k32 32 w' w.heap.size (fun k_ => ((z0 k_ ∨ u0 k_ ∨ A0 k_) ∨ w.heap.size ≤ k_)) pC r3 ∧ Below w.heap.size w w' := by
 have pE := Tryz.underlying24
 have vD := Tryz.underlying30
 have qE := Tryz.underlying32
 have U0 := am_ (show Kd.V k32 32 w w.heap.size (fun k_ => ((z0 k_ ∨ u0 k_ ∨ A0 k_) ∨ w.heap.size ≤ k_)) (.slice A0_2 l0_2.length c0_2) l0_2 from Kd.V_mono cA (fun k_ hk => .inl (.inl hk)))
 have P0 := am_ (show Kd.V k107 107 w w.heap.size (fun k_ => ((z0 k_ ∨ u0 k_ ∨ A0 k_) ∨ w.heap.size ≤ k_)) (.slice Y2 W0.length X1) W0 from Kd.V_mono U9 (fun k_ hk => .inl (.inr (.inl hk))))
 have Q0 := am_ (show Kd.V Kd.string 9 w w.heap.size (fun k_ => ((z0 k_ ∨ u0 k_ ∨ A0 k_) ∨ w.heap.size ≤ k_)) (.slice J2 V0.length V1) V0 from Kd.V_mono Z9 (fun k_ hk => .inl (.inr (.inr hk))))
 have HB := am_ (Below.refl w.heap.size w)
 have H : ((Gf.f k Y0 X0 W0 V0 C1 i1 a0_0).bind fun c6 => (if c6.2 = 0 then (if X0 ≤ a0_1 then (none) else ((Fr.f k a0_0 a0_1 l0_2 c6.1).bind fun R9 => (if R9.2.2.2.2.2.2.2 = true then (none) else ((Fb.f k a0_0 a0_1 l0_2 Y0 X0).bind fun lA => (if lA.2.2.2.2.2.2.2 = true then (none) else ((Fc.f k a0_0 a0_1 l0_2 Y0 X0 W0 V0 C1 i1).bind fun a5 => (if (a5.length : Int) > 0 then (none) else (Fn.l0 k c6.1 0 a0_0 a0_1 l0_2 Y0 X0 W0 V0 C1 i1)))))))) else (none))) = some (r1, r2, r3, r4) := h
 clear h
 replace H := Option.bind_eq_some_iff.mp H
 obtain ⟨⟨N2, H8⟩, vC, H⟩ := H
 try dsimp only at H
 have A3 := am_ vC
 clear vC
 revert H
 refine gi' (fun c4 H => ?_)
 have zB : (H8 == 0) = true := beq_iff_eq.mpr c4
 have tB : (H8 != 0) = false := bne_eq_false_iff_eq.mpr c4
 clear c4
 by_cases c5 : X0 ≤ a0_1
 ·
  rw [if_pos c5] at H
  exact absurd H (by simp)
 rw [if_neg c5] at H
 have rB : decide (X0 ≤ a0_1) = false := decide_eq_false c5
 clear c5
 replace H := Option.bind_eq_some_iff.mp H
 obtain ⟨⟨i6, k6, A6, U4, W4, q6, o6, jC⟩, dA, H⟩ := H
 try dsimp only at H
 have mE := am_ dA
 clear dA
 by_cases pA : jC = true
 ·
  subst pA
  have H1 : (none) = some (r1, r2, r3, r4) := by rw [if_pos rfl] at H; exact H
  exact absurd H1 (by simp)
 replace pA := Bool.eq_false_iff.mpr pA
 subst pA
 rw [if_neg (show ¬ (false = true) by decide)] at H
 replace H := Option.bind_eq_some_iff.mp H
 obtain ⟨⟨p9, g8, m8, V5, a6, t9, m9, vB⟩, X9, H⟩ := H
 try dsimp only at H
 have cE := am_ X9
 clear X9
 by_cases wA : vB = true
 ·
  subst wA
  have H1 : (none) = some (r1, r2, r3, r4) := by rw [if_pos rfl] at H; exact H
  exact absurd H1 (by simp)
 replace wA := Bool.eq_false_iff.mpr wA
 subst wA
 rw [if_neg (show ¬ (false = true) by decide)] at H
 replace H := Option.bind_eq_some_iff.mp H
 obtain ⟨a5, tA, H⟩ := H
 try dsimp only at H
 have lE := am_ tA
 clear tA
 by_cases jB : (a5.length : Int) > 0
 ·
  rw [if_pos jB] at H
  exact absurd H (by simp)
 rw [if_neg jB] at H
 have Q9 : decide (0 < (a5.length : Int)) = false := decide_eq_false jB
 have kA : decide (0 < a5.length) = false := decide_eq_false (by omega)
 clear jB
 have H' := am_ H
 clear H
 go_enter Tryz.func25, Tryz.ntmps25
 go_wp2_with (first | ((with_reducible refine gd_ 2 ?_); refine be_ 2 #[.int .i64 a0_0, .int .i64 a0_1, .slice A0_2 l0_2.length c0_2] 24 ?_; intro E0 hg wE hbox hb; replace U0 := tVe U0 hg hb; replace P0 := tVe P0 hg hb; replace Q0 := tVe Q0 hg hb; have C0 := am_ hbox; have bD := tG HB hg; have yC := tG HB hg; replace HB := tHb HB hb; clear hb hbox hg) | ((with_reducible refine gd_ 3 ?_); refine be_ 3 #[.int .i64 Y0, .int .i64 X0, .slice Y2 W0.length X1, .slice J2 V0.length V1, .int .i64 C1, .int .i64 i1] 30 ?_; intro m0 hg sE hbox hb; replace U0 := tVe U0 hg hb; replace P0 := tVe P0 hg hb; replace Q0 := tVe Q0 hg hb; have o0 := am_ hbox; have lD := tG HB hg; have fD := tG HB hg; replace HB := tHb HB hb; obtain ⟨b5, A5⟩ := tN C0 hg; replace C0 := tBb C0 hb; clear hb hbox hg) | ((with_reducible refine gd_ 4 ?_); refine be_ 4 #[.int .i64 0, .int .i64 0, .slice none 0 0] 24 ?_; intro I0 hg yD hbox hb; replace U0 := tVe U0 hg hb; replace P0 := tVe P0 hg hb; replace Q0 := tVe Q0 hg hb; have M0 := am_ hbox; have qC := tG HB hg; have hD := tG HB hg; replace HB := tHb HB hb; obtain ⟨i3, M9⟩ := tN C0 hg; replace C0 := tBb C0 hb; obtain ⟨k3, L9⟩ := tN o0 hg; replace o0 := tBb o0 hb; clear hb hbox hg; obtain ⟨_, _⟩ := n2 A5; obtain ⟨_, _⟩ := n2 k3; obtain ⟨O6, J7, L8, f8, w9, Z7, l8, b9, t7, R8, f7, q8⟩ := bx6 o0; obtain ⟨_, _⟩ := n2 i3; obtain ⟨a7, K7, S6, Y6, O8, R7⟩ := bx3 C0) | ((with_reducible refine gate_callee (f := 45) rfl ?_); refine gl_ (some 19) Tryz.func45 #[.agg #[.int .i64 Y0, .int .i64 X0, .slice Y2 W0.length X1, .slice J2 V0.length V1, .int .i64 C1, .int .i64 i1], .int .i64 a0_0] ?_; (with_reducible refine (Gf.calls k Y0 X0 _ _ W0 _ _ V0 C1 i1 a0_0 N2 H8 _ ?U1 ?Y3 ?V3 ?k4 A3.out).mono ?_); (case U1 => repeat (first | exact (Kd.V_reads' P0.out).2.2 | (with_reducible refine Kd.C_alloc ?_ _) | (with_reducible refine Kd.C_drewN ?_ _) | (with_reducible refine Kd.C_drew ?_))); (case Y3 => exact (Kd.V_reads' P0.out).2.1); (case V3 => repeat (first | exact (Kd.V_reads' Q0.out).2.2 | (with_reducible refine Kd.C_alloc ?_ _) | (with_reducible refine Kd.C_drewN ?_ _) | (with_reducible refine Kd.C_drew ?_))); (case k4 => exact (Kd.V_reads' Q0.out).2.1); rintro e bE ⟨rfl, hb⟩; refine ⟨_, rfl, ?_⟩; replace U0 := tVb U0 hb; replace P0 := tVb P0 hb; replace Q0 := tVb Q0 hb; replace C0 := tBb C0 hb; replace o0 := tBb o0 hb; replace M0 := tBb M0 hb; replace HB := tHb HB hb; (try clear hb); obtain ⟨Y7, z8, D7, b8, M7, Z8, I7, M8, w8, l9, z7, C7⟩ := bx6 o0; obtain ⟨a9, V7, j9, W8, o8, U8⟩ := bx3 C0) | ((with_reducible refine gate_callee (f := 42) rfl ?_); refine gl_ (some 34) Tryz.func42 #[.agg #[.int .i64 a0_0, .int .i64 a0_1, .slice A0_2 l0_2.length c0_2], .string N2] ?_; (with_reducible refine (Fr.calls k a0_0 a0_1 (fun k_ => (((((z0 k_ ∨ u0 k_ ∨ A0 k_) ∨ w.heap.size ≤ k_) ∧ k_ ≠ E0) ∧ k_ ≠ m0) ∧ k_ ≠ I0)) _ _ l0_2 N2 i6 k6 A6 U4 W4 q6 o6 false _ ?U1 mE.out).mono ?_); (case U1 => exact U0.out); rintro e rD ⟨xD, tD, rfl, l4, bA, hb⟩; refine ⟨_, rfl, ?_⟩; replace U0 := tVb U0 hb; replace P0 := tVb P0 hb; replace Q0 := tVb Q0 hb; have O1 := lo (fun k_ => ((z0 k_ ∨ u0 k_ ∨ A0 k_) ∨ w.heap.size ≤ k_) ∧ k_ ≠ E0 ∧ k_ ≠ m0 ∧ k_ ≠ I0) l4 (fun k_ hk_ => ⟨Or.elim hk_ (fun hs_ => hs_.1.1.1) (fun hn_ => (.inr (Nat.le_trans (below_size (bh HB)) hn_))), Or.elim hk_ (fun hs_ => hs_.1.1.2) (fun hn_ => (gFr C0 k_ hn_)), Or.elim hk_ (fun hs_ => hs_.1.2) (fun hn_ => (gFr o0 k_ hn_)), Or.elim hk_ (fun hs_ => hs_.2) (fun hn_ => (gFr M0 k_ hn_))⟩) HB; have N1 := lo (fun k_ => ((z0 k_ ∨ u0 k_ ∨ A0 k_) ∨ w.heap.size ≤ k_) ∧ k_ ≠ E0 ∧ k_ ≠ m0 ∧ k_ ≠ I0) bA (fun k_ hk_ => ⟨Or.elim hk_ (fun hs_ => hs_.1.1.1) (fun hn_ => (.inr (Nat.le_trans (below_size (bh HB)) hn_))), Or.elim hk_ (fun hs_ => hs_.1.1.2) (fun hn_ => (gFr C0 k_ hn_)), Or.elim hk_ (fun hs_ => hs_.1.2) (fun hn_ => (gFr o0 k_ hn_)), Or.elim hk_ (fun hs_ => hs_.2) (fun hn_ => (gFr M0 k_ hn_))⟩) HB; replace C0 := tBb C0 hb; replace o0 := tBb o0 hb; replace M0 := tBb M0 hb; replace HB := tHb HB hb; (try clear hb l4 bA)) | ((with_reducible refine gd_ 8 ?_); refine be_ 8 #[.string (⟨#[]⟩ : ByteArray), .int .i64 0, .int .i64 0, .slice none 0 0, .slice none 0 0, .int .i64 0, .int .i64 0] 32 ?_; intro n0 hg pB hbox hb; replace U0 := tVe U0 hg hb; replace P0 := tVe P0 hg hb; replace Q0 := tVe Q0 hg hb; replace O1 := tVe O1 hg hb; replace N1 := tVe N1 hg hb; have N0 := am_ hbox; have sC := tG HB hg; have zC := tG HB hg; replace HB := tHb HB hb; obtain ⟨D5, s5⟩ := tN C0 hg; replace C0 := tBb C0 hb; obtain ⟨m5, I5⟩ := tN o0 hg; replace o0 := tBb o0 hb; obtain ⟨Z4, k5⟩ := tN M0 hg; replace M0 := tBb M0 hb; clear hb hbox hg; obtain ⟨_, _⟩ := n2 s5; obtain ⟨_, _⟩ := n2 I5; obtain ⟨_, _⟩ := n2 k5; obtain ⟨J8, i9, N8, H9, Y8, P8, s9, D8, C9, R6, V8, d7, S7, S8⟩ := bx7 N0; obtain ⟨J4, R4, rfl⟩ := Kd.V_slice O1.out; obtain ⟨N4, M4, rfl⟩ := Kd.V_slice N1.out) | ((with_reducible refine gate_store (t := 32) (p := 8) rfl ?_); refine se_ 32 8 (((((((pB.setCell ⟨n0, 0, none⟩ (.string i6)).setCell ⟨n0, 1, none⟩ (.int .i64 k6)).setCell ⟨n0, 2, none⟩ (.int .i64 A6)).setCell ⟨n0, 3, none⟩ (.slice J4 U4.length R4)).setCell ⟨n0, 4, none⟩ (.slice N4 W4.length M4)).setCell ⟨n0, 5, none⟩ (.int .i64 q6)).setCell ⟨n0, 6, none⟩ (.int .i64 o6)) ?_; intro qD hw; replace U0 := gVw (fun k_ => ((z0 k_ ∨ u0 k_ ∨ A0 k_) ∨ w.heap.size ≤ k_) ∧ k_ ≠ E0 ∧ k_ ≠ m0 ∧ k_ ≠ I0 ∧ k_ ≠ n0) U0 hw; replace P0 := gVw (fun k_ => ((z0 k_ ∨ u0 k_ ∨ A0 k_) ∨ w.heap.size ≤ k_) ∧ k_ ≠ E0 ∧ k_ ≠ m0 ∧ k_ ≠ I0 ∧ k_ ≠ n0) P0 hw; replace Q0 := gVw (fun k_ => ((z0 k_ ∨ u0 k_ ∨ A0 k_) ∨ w.heap.size ≤ k_) ∧ k_ ≠ E0 ∧ k_ ≠ m0 ∧ k_ ≠ I0 ∧ k_ ≠ n0) Q0 hw; replace O1 := gVw (fun k_ => ((z0 k_ ∨ u0 k_ ∨ A0 k_) ∨ w.heap.size ≤ k_) ∧ k_ ≠ E0 ∧ k_ ≠ m0 ∧ k_ ≠ I0 ∧ k_ ≠ n0) O1 hw; replace N1 := gVw (fun k_ => ((z0 k_ ∨ u0 k_ ∨ A0 k_) ∨ w.heap.size ≤ k_) ∧ k_ ≠ E0 ∧ k_ ≠ m0 ∧ k_ ≠ I0 ∧ k_ ≠ n0) N1 hw; replace C0 := sB C0 hw; replace o0 := sB o0 hw; replace M0 := sB M0 hw; replace N0 := sP #[.string i6, .int .i64 k6, .int .i64 A6, .slice J4 U4.length R4, .slice N4 W4.length M4, .int .i64 q6, .int .i64 o6] N0 hw; replace HB := sH HB hw; clear hw; obtain ⟨t8, o7, i8, I8, g9, A9⟩ := bx3 C0; obtain ⟨P7, J9, B8, Q6, c9, q9, k7, U6, e9, I9, w7, f9⟩ := bx6 o0) | ((with_reducible refine gate_callee (f := 30) rfl ?_); refine gl_ (some 45) Tryz.func30 #[.agg #[.int .i64 a0_0, .int .i64 a0_1, .slice A0_2 l0_2.length c0_2], .int .i64 Y0, .int .i64 X0] ?_; (with_reducible refine (Fb.calls k a0_0 a0_1 (fun k_ => (((z0 k_ ∨ u0 k_ ∨ A0 k_) ∨ w.heap.size ≤ k_) ∧ (k_ ≠ E0 ∧ (k_ ≠ m0 ∧ (k_ ≠ I0 ∧ k_ ≠ n0))))) _ _ l0_2 Y0 X0 p9 g8 m8 V5 a6 t9 m9 false _ ?U1 cE.out).mono ?_); (case U1 => exact U0.out); rintro e wD ⟨jE, zD, rfl, l4, bA, hb⟩; refine ⟨_, rfl, ?_⟩; replace U0 := tVb U0 hb; replace P0 := tVb P0 hb; replace Q0 := tVb Q0 hb; replace O1 := tVb O1 hb; replace N1 := tVb N1 hb; have b3 := lo (fun k_ => ((z0 k_ ∨ u0 k_ ∨ A0 k_) ∨ w.heap.size ≤ k_) ∧ k_ ≠ E0 ∧ k_ ≠ m0 ∧ k_ ≠ I0 ∧ k_ ≠ n0) l4 (fun k_ hk_ => ⟨Or.elim hk_ (fun hs_ => hs_.1) (fun hn_ => (.inr (Nat.le_trans (below_size (bh HB)) hn_))), Or.elim hk_ (fun hs_ => hs_.2.1) (fun hn_ => (gFr C0 k_ hn_)), Or.elim hk_ (fun hs_ => hs_.2.2.1) (fun hn_ => (gFr o0 k_ hn_)), Or.elim hk_ (fun hs_ => hs_.2.2.2.1) (fun hn_ => (gFr M0 k_ hn_)), Or.elim hk_ (fun hs_ => hs_.2.2.2.2) (fun hn_ => (gFr N0 k_ hn_))⟩) HB; have l3 := lo (fun k_ => ((z0 k_ ∨ u0 k_ ∨ A0 k_) ∨ w.heap.size ≤ k_) ∧ k_ ≠ E0 ∧ k_ ≠ m0 ∧ k_ ≠ I0 ∧ k_ ≠ n0) bA (fun k_ hk_ => ⟨Or.elim hk_ (fun hs_ => hs_.1) (fun hn_ => (.inr (Nat.le_trans (below_size (bh HB)) hn_))), Or.elim hk_ (fun hs_ => hs_.2.1) (fun hn_ => (gFr C0 k_ hn_)), Or.elim hk_ (fun hs_ => hs_.2.2.1) (fun hn_ => (gFr o0 k_ hn_)), Or.elim hk_ (fun hs_ => hs_.2.2.2.1) (fun hn_ => (gFr M0 k_ hn_)), Or.elim hk_ (fun hs_ => hs_.2.2.2.2) (fun hn_ => (gFr N0 k_ hn_))⟩) HB; replace C0 := tBb C0 hb; replace o0 := tBb o0 hb; replace M0 := tBb M0 hb; replace N0 := tBb N0 hb; replace HB := tHb HB hb; (try clear hb l4 bA)) | ((with_reducible refine gd_ 10 ?_); refine be_ 10 #[.string (⟨#[]⟩ : ByteArray), .int .i64 0, .int .i64 0, .slice none 0 0, .slice none 0 0, .int .i64 0, .int .i64 0] 32 ?_; intro L0 hg kE hbox hb; replace U0 := tVe U0 hg hb; replace P0 := tVe P0 hg hb; replace Q0 := tVe Q0 hg hb; replace O1 := tVe O1 hg hb; replace N1 := tVe N1 hg hb; replace b3 := tVe b3 hg hb; replace l3 := tVe l3 hg hb; have O0 := am_ hbox; have mD := tG HB hg; have rC := tG HB hg; replace HB := tHb HB hb; obtain ⟨Y4, S4⟩ := tN C0 hg; replace C0 := tBb C0 hb; obtain ⟨j5, C5⟩ := tN o0 hg; replace o0 := tBb o0 hb; obtain ⟨i5, p5⟩ := tN M0 hg; replace M0 := tBb M0 hb; obtain ⟨K9, E5⟩ := tN N0 hg; replace N0 := tBb N0 hb; clear hb hbox hg; obtain ⟨_, _⟩ := n2 S4; obtain ⟨_, _⟩ := n2 C5; obtain ⟨_, _⟩ := n2 p5; obtain ⟨_, _⟩ := n2 E5; obtain ⟨g7, Q7, o9, O7, D9, W7, k9, W6, U7, B9, p7, C8, A8, V6⟩ := bx7 O0; obtain ⟨Y5, K5, rfl⟩ := Kd.V_slice b3.out; obtain ⟨R5, L5, rfl⟩ := Kd.V_slice l3.out; obtain ⟨x9, P6, l7, p8, A7, m7⟩ := bx3 C0; obtain ⟨Z6, T8, j8, X8, v9, X6, i7, E8, x8, v8, r9, s7⟩ := bx6 o0) | ((with_reducible refine gate_callee (f := 46) rfl ?_); refine gl_ (some 52) Tryz.func46 #[.agg #[.int .i64 a0_0, .int .i64 a0_1, .slice A0_2 l0_2.length c0_2], .agg #[.int .i64 Y0, .int .i64 X0, .slice Y2 W0.length X1, .slice J2 V0.length V1, .int .i64 C1, .int .i64 i1]] ?_; (with_reducible refine (Fc.calls k a0_0 a0_1 _ _ l0_2 Y0 X0 _ _ W0 _ _ V0 C1 i1 a5 _ ?U1 ?Y3 ?V3 ?k4 ?J5 ?W5 lE.out).mono ?_); (case U1 => refine (Kd.V_reads' (e := 32) (base := w.heap.size) (ok := fun k_ => ((((z0 k_ ∨ u0 k_ ∨ A0 k_) ∨ w.heap.size ≤ k_) ∧ (k_ ≠ E0 ∧ (k_ ≠ m0 ∧ (k_ ≠ I0 ∧ k_ ≠ n0)))) ∧ k_ ≠ L0)) (n := l0_2.length) (c := c0_2) ?_).2.2; exact (hV U0)); (case Y3 => exact (Kd.V_reads' U0.out).2.1); (case V3 => refine (Kd.V_reads' (e := 107) (base := w.heap.size) (ok := fun k_ => ((((z0 k_ ∨ u0 k_ ∨ A0 k_) ∨ w.heap.size ≤ k_) ∧ (k_ ≠ E0 ∧ (k_ ≠ m0 ∧ (k_ ≠ I0 ∧ k_ ≠ n0)))) ∧ k_ ≠ L0)) (n := W0.length) (c := X1) ?_).2.2; exact (hV P0)); (case k4 => exact (Kd.V_reads' P0.out).2.1); (case J5 => refine (Kd.V_reads' (e := 9) (base := w.heap.size) (ok := fun k_ => ((((z0 k_ ∨ u0 k_ ∨ A0 k_) ∨ w.heap.size ≤ k_) ∧ (k_ ≠ E0 ∧ (k_ ≠ m0 ∧ (k_ ≠ I0 ∧ k_ ≠ n0)))) ∧ k_ ≠ L0)) (n := V0.length) (c := V1) ?_).2.2; exact (hV Q0)); (case W5 => exact (Kd.V_reads' Q0.out).2.1); rintro e gE ⟨tE, rfl, l4, hb⟩; refine ⟨_, rfl, ?_⟩; replace U0 := am_ (Kd.V_elder' (hV U0) (Kd.R_base l4) hb); replace P0 := am_ (Kd.V_elder' (hV P0) (Kd.R_base l4) hb); replace Q0 := am_ (Kd.V_elder' (hV Q0) (Kd.R_base l4) hb); replace O1 := am_ (Kd.V_elder' (hV O1) (Kd.R_base l4) hb); replace N1 := am_ (Kd.V_elder' (hV N1) (Kd.R_base l4) hb); replace b3 := am_ (Kd.V_elder' (hV b3) (Kd.R_base l4) hb); replace l3 := am_ (Kd.V_elder' (hV l3) (Kd.R_base l4) hb); have W9 := am_ (Kd.R_lower (Kd.R_newM (M := fun k_ => (w.heap.size ≤ k_)) l4 (below_size (bh HB)) (fun k_ h_ => h_)) (below_size (bh HB))); replace C0 := tBb C0 hb; replace o0 := tBb o0 hb; replace M0 := tBb M0 hb; replace N0 := tBb N0 hb; replace O0 := am_ (blk_below (g := L0) (o := .cells #[.string p9, .int .i64 g8, .int .i64 m8, .slice Y5 V5.length K5, .slice R5 a6.length L5, .int .i64 t9, .int .i64 m9] 32 (0, 0)) (gP O0 rfl) hb); replace HB := tHb HB hb; (try clear hb l4); obtain ⟨pD, kD, V9⟩ := Kd.R_slice W9.out; subst V9))
 go_loopg [13] k (fun kq fE w' => ∃ (a0 : Int), fE = .int .i64 a0 ∧ Asc (Fn.l0 kq N2 a0 a0_0 a0_1 l0_2 Y0 X0 W0 V0 C1 i1 = some (r1, r2, r3, r4)) ∧ Asc (kq ≤ k) ∧ Asc (Kd.V k32 32 w' w.heap.size (fun k_ => ((z0 k_ ∨ u0 k_ ∨ A0 k_) ∨ w.heap.size ≤ k_) ∧ k_ ≠ E0 ∧ k_ ≠ m0 ∧ k_ ≠ I0 ∧ k_ ≠ n0 ∧ k_ ≠ L0) (.slice A0_2 l0_2.length c0_2) l0_2) ∧ Asc (Kd.V k107 107 w' w.heap.size (fun k_ => ((z0 k_ ∨ u0 k_ ∨ A0 k_) ∨ w.heap.size ≤ k_) ∧ k_ ≠ E0 ∧ k_ ≠ m0 ∧ k_ ≠ I0 ∧ k_ ≠ n0 ∧ k_ ≠ L0) (.slice Y2 W0.length X1) W0) ∧ Asc (Kd.V Kd.string 9 w' w.heap.size (fun k_ => ((z0 k_ ∨ u0 k_ ∨ A0 k_) ∨ w.heap.size ≤ k_) ∧ k_ ≠ E0 ∧ k_ ≠ m0 ∧ k_ ≠ I0 ∧ k_ ≠ n0 ∧ k_ ≠ L0) (.slice J2 V0.length V1) V0) ∧ Asc (Kd.V k107 107 w' w.heap.size (fun k_ => ((z0 k_ ∨ u0 k_ ∨ A0 k_) ∨ w.heap.size ≤ k_) ∧ k_ ≠ E0 ∧ k_ ≠ m0 ∧ k_ ≠ I0 ∧ k_ ≠ n0 ∧ k_ ≠ L0) (.slice J4 U4.length R4) U4) ∧ Asc (Kd.V Kd.string 9 w' w.heap.size (fun k_ => ((z0 k_ ∨ u0 k_ ∨ A0 k_) ∨ w.heap.size ≤ k_) ∧ k_ ≠ E0 ∧ k_ ≠ m0 ∧ k_ ≠ I0 ∧ k_ ≠ n0 ∧ k_ ≠ L0) (.slice N4 W4.length M4) W4) ∧ Asc (Kd.V k107 107 w' w.heap.size (fun k_ => ((z0 k_ ∨ u0 k_ ∨ A0 k_) ∨ w.heap.size ≤ k_) ∧ k_ ≠ E0 ∧ k_ ≠ m0 ∧ k_ ≠ I0 ∧ k_ ≠ n0 ∧ k_ ≠ L0) (.slice Y5 V5.length K5) V5) ∧ Asc (Kd.V Kd.string 9 w' w.heap.size (fun k_ => ((z0 k_ ∨ u0 k_ ∨ A0 k_) ∨ w.heap.size ≤ k_) ∧ k_ ≠ E0 ∧ k_ ≠ m0 ∧ k_ ≠ I0 ∧ k_ ≠ n0 ∧ k_ ≠ L0) (.slice R5 a6.length L5) a6) ∧ Asc (w'.heap[E0]? = some (.cells #[.int .i64 a0_0, .int .i64 a0_1, (.slice A0_2 l0_2.length c0_2)] 24 (0, 0))) ∧ Asc (w'.heap[m0]? = some (.cells #[.int .i64 Y0, .int .i64 X0, (.slice Y2 W0.length X1), (.slice J2 V0.length V1), .int .i64 C1, .int .i64 i1] 30 (0, 0))) ∧ Asc (w'.heap[I0]? = some (.cells #[.int .i64 0, .int .i64 0, (.slice none 0 0)] 24 (0, 0))) ∧ Asc (w'.heap[n0]? = some (.cells #[.string i6, .int .i64 k6, .int .i64 A6, (.slice J4 U4.length R4), (.slice N4 W4.length M4), .int .i64 q6, .int .i64 o6] 32 (0, 0))) ∧ Asc (w'.heap[L0]? = some (.cells #[.string p9, .int .i64 g8, .int .i64 m8, (.slice Y5 V5.length K5), (.slice R5 a6.length L5), .int .i64 t9, .int .i64 m9] 32 (0, 0))) ∧ Asc (Below w.heap.size w w'))
 case atStart => exact ⟨(0), fr, H', ⟨Nat.le_refl _⟩, ⟨gV U0⟩, ⟨gV P0⟩, ⟨gV Q0⟩, ⟨gV O1⟩, ⟨gV N1⟩, ⟨gV b3⟩, ⟨gV l3⟩, ⟨gB C0⟩, ⟨gB o0⟩, ⟨gB M0⟩, ⟨gB N0⟩, ⟨gB O0⟩, ⟨bh HB⟩⟩
 case round =>
  clear H'
  try clear zB tB rB pA wA Q9 kA O6 J7 L8 f8 w9 Z7 a7 K7 S6 Y7 z8 D7 b8 M7 Z8 a9 V7 j9 J8 i9 N8 H9 Y8 P8 s9 t8 o7 i8 P7 J9 B8 Q6 c9 q9 g7 Q7 o9 O7 D9 W7 k9 x9 P6 l7 Z6 T8 j8 X8 v9 X6 l8 b9 t7 R8 f7 q8 Y6 O8 R7 I7 M8 w8 l9 z7 C7 W8 o8 U8 D8 C9 R6 V8 d7 S7 S8 I8 g9 A9 k7 U6 e9 I9 w7 f9 W6 U7 B9 p7 C8 A8 V6 p8 A7 m7 i7 E8 x8 v8 r9 s7
  obtain ⟨a0, rfl, HA, jD, HO_312002, HO_313002, HO_313003, HO_329003, HO_329004, HO_342003, HO_342004, C0, o0, M0, N0, O0, HB⟩ := hrel
  cases gk with
  | zero => exact absurd HA.out (by simp [Fn.l0])
  | succ k1 =>
   have H := HA.out
   clear HA
   simp only [Fn.l0] at H
   by_cases l5 : a0 < (l0_2.length : Int)
   ·
    rw [if_pos l5] at H
    have N6 : decide (a0 < (l0_2.length : Int)) = true := decide_eq_true l5
    clear l5
    revert H
    refine gi (fun kC H => ?_)
    replace H := Option.bind_eq_some_iff.mp H
    obtain ⟨lC, D6, H⟩ := H
    try dsimp only at H
    have qB := am_ D6
    clear D6
    by_cases s6 : lC = true
    ·
     subst s6
     have H1 : (none) = some (r1, r2, r3, r4) := by rw [if_pos rfl] at H; exact H
     exact absurd H1 (by simp)
    replace s6 := Bool.eq_false_iff.mpr s6
    subst s6
    rw [if_neg (show ¬ (false = true) by decide)] at H
    have H' := am_ H
    clear H
    try go_wp2
    replace HO_312002 := am_ (Kd.V_drew HO_312002.out)
    replace HO_313002 := am_ (Kd.V_drew HO_313002.out)
    replace HO_313003 := am_ (Kd.V_drew HO_313003.out)
    replace HO_329003 := am_ (Kd.V_drew HO_329003.out)
    replace HO_329004 := am_ (Kd.V_drew HO_329004.out)
    replace HO_342003 := am_ (Kd.V_drew HO_342003.out)
    replace HO_342004 := am_ (Kd.V_drew HO_342004.out)
    replace C0 := am_ (blk_drew C0.out)
    replace o0 := am_ (blk_drew o0.out)
    replace M0 := am_ (blk_drew M0.out)
    replace N0 := am_ (blk_drew N0.out)
    replace O0 := am_ (blk_drew O0.out)
    replace HB := am_ (below_drew1 HB.out)
    have l6 : 0 ≤ (a0 : Int) := dt
    have m6 : a0 < (l0_2.length : Int) := dt
    obtain ⟨D1, b6, N5, M5, P5, nB, O4, u4, P4, I3, C3, L4, C4, I4, Q4, K4, E4⟩ := at_T32 (Kd.V_reads' HO_312002.out).2.2 a0 l6 m6
    cases nB
    obtain ⟨nD, d9, z9, m4⟩ := Kd.V_get HO_312002.out z32 a0 l6 (by first | exact m6 | exact dt | (have e_ := (Kd.V_reads' HO_312002.out).1; omega))
    obtain ⟨lB, mB, fB, kB, rfl, u3, J3, m3, D3⟩ := k32_openF z9
    have Z1 := m4 3 _ rfl
    rw [add_field _ _ 3 (by omega)] at Z1
    replace Z1 := Option.some.inj (Z1.symm.trans I3)
    injection Z1 with hva_ hvn_ hvc_
    rw [hva_] at J3
    rw [hvc_] at u3
    have N3 := am_ (show Kd.V k107 107 _ w.heap.size _ _ ((rd_T32 l0_2 a0).f1.f2) from Kd.V_mk u3 J3)
    clear hva_ hvn_ hvc_ J3 u3
    have i2 := m4 4 _ rfl
    rw [add_field _ _ 4 (by omega)] at i2
    replace i2 := Option.some.inj (i2.symm.trans C3)
    injection i2 with hva_ hvn_ hvc_
    rw [hva_] at D3
    rw [hvc_] at m3
    have L3 := am_ (show Kd.V Kd.string 9 _ w.heap.size _ _ ((rd_T32 l0_2 a0).f1.f3) from Kd.V_mk m3 D3)
    clear hva_ hvn_ hvc_ D3 m3 m4 d9
    have C2 := am_ Q4
    have z6 := am_ I4
    clear Q4 I4
    have Y1 := am_ E4
    have p6 := am_ K4
    clear E4 K4
    replace l6 := eq_true l6
    replace m6 := eq_true m6
    refine start_ (n := 16) (S := fun w' => w'.cell? ⟨E0, 0, none⟩ = some (.int .i64 a0_0) ∧ w'.cell? ⟨E0, 1, none⟩ = some (.int .i64 a0_1) ∧ w'.cell? ⟨E0, 2, none⟩ = some (.slice (some D1) l0_2.length c0_2) ∧ w'.cell? ⟨m0, 0, none⟩ = some (.int .i64 Y0) ∧ w'.cell? ⟨m0, 1, none⟩ = some (.int .i64 X0) ∧ w'.cell? ⟨m0, 2, none⟩ = some (.slice Y2 W0.length X1) ∧ w'.cell? ⟨m0, 3, none⟩ = some (.slice J2 V0.length V1) ∧ w'.cell? ⟨m0, 4, none⟩ = some (.int .i64 C1) ∧ w'.cell? ⟨m0, 5, none⟩ = some (.int .i64 i1) ∧ w'.cell? (D1.add ((a0).toNat * 7)) = some (.string ((rd_T32 l0_2 a0).f0)) ∧ w'.cell? ⟨(D1.add ((a0).toNat * 7)).block, (D1.add ((a0).toNat * 7)).off + 1, none⟩ = some (.int .i64 ((rd_T32 l0_2 a0).f1.f0)) ∧ w'.cell? ⟨(D1.add ((a0).toNat * 7)).block, (D1.add ((a0).toNat * 7)).off + 2, none⟩ = some (.int .i64 ((rd_T32 l0_2 a0).f1.f1)) ∧ w'.cell? ⟨(D1.add ((a0).toNat * 7)).block, (D1.add ((a0).toNat * 7)).off + 3, none⟩ = some (.slice b6 ((rd_T32 l0_2 a0).f1.f2).length N5) ∧ w'.cell? ⟨(D1.add ((a0).toNat * 7)).block, (D1.add ((a0).toNat * 7)).off + 4, none⟩ = some (.slice M5 ((rd_T32 l0_2 a0).f1.f3).length P5) ∧ w'.cell? ⟨(D1.add ((a0).toNat * 7)).block, (D1.add ((a0).toNat * 7)).off + 5, none⟩ = some (.int .i64 ((rd_T32 l0_2 a0).f1.f4.f0)) ∧ w'.cell? ⟨(D1.add ((a0).toNat * 7)).block, (D1.add ((a0).toNat * 7)).off + 6, none⟩ = some (.int .i64 ((rd_T32 l0_2 a0).f1.f4.f1))) (ds := []) #[false, false, false, false, false, false, false, false, false, false, false, false, false, false, false, false] (by kernel_rfl) rfl rfl ⟨(blk_cell C0.out 0).trans rfl, (blk_cell C0.out 1).trans rfl, (blk_cell C0.out 2).trans rfl, (blk_cell o0.out 0).trans rfl, (blk_cell o0.out 1).trans rfl, (blk_cell o0.out 2).trans rfl, (blk_cell o0.out 3).trans rfl, (blk_cell o0.out 4).trans rfl, (blk_cell o0.out 5).trans rfl, O4, u4, P4, I3, C3, L4, C4⟩ (fun hHeld => ?_); refine with_tabW Fn.tab16 Fn.bits16 (fun HT_ HW_ => ?_)
    generalize wr.drew = vE at HO_312002 HO_313002 HO_313003 HO_329003 HO_329004 HO_342003 HO_342004 C0 o0 M0 N0 O0 HB N3 L3 C2 Y1 O4 u4 P4 I3 C3 L4 C4 hHeld ⊢
    refine pu_ 0 (some 57) 1 HT_ (h := ?_)
    refine pu_ 1 (some 58) 3 HT_ (h := ?_)
    refine tk_ 2 (some 59) 7 HT_ HW_ hHeld (h := ?_)
    refine pu_ 3 (some 60) 15 HT_ (h := ?_)
    refine pu_ 4 (some 61) 31 HT_ (h := ?_)
    refine pu_ 5 (some 62) 63 HT_ (h := ?_)
    refine pu_ 7 (some 64) 191 HT_ (h := ?_)
    refine pu_ 9 (some 66) 703 HT_ (h := ?_)
    refine tk_ 6 (some 63) 767 HT_ HW_ hHeld (h := ?_)
    refine tk_ 8 (some 65) 1023 HT_ HW_ hHeld (h := ?_)
    refine pu_ 10 (some 67) 2047 HT_ (h := ?_)
    refine pu_ 11 (some 68) 4095 HT_ (h := ?_)
    refine tk_ 12 (some 69) 8191 HT_ HW_ hHeld (h := ?_)
    refine one_ (i := 13) (N := some 70) #[true, true, true, true, true, true, true, true, true, true, true, true, true, true, false, false] rfl rfl (one_of HT_.out (by kernel_rfl)) (by decide) (fun K hK => ?_)
    refine goes_ Tryz.func47 (by kernel_rfl) rfl #[.agg #[.int .i64 Y0, .int .i64 X0, .slice Y2 W0.length X1, .slice J2 V0.length V1, .int .i64 C1, .int .i64 i1], .agg #[.int .i64 ((rd_T32 l0_2 a0).f1.f0), .int .i64 ((rd_T32 l0_2 a0).f1.f1), .slice b6 ((rd_T32 l0_2 a0).f1.f2).length N5, .slice M5 ((rd_T32 l0_2 a0).f1.f3).length P5, .int .i64 ((rd_T32 l0_2 a0).f1.f4.f0), .int .i64 ((rd_T32 l0_2 a0).f1.f4.f1)]] (by rfl) rfl rfl (by (try simp only [List.map_toArray, List.map_cons, List.map_nil]); first | done | rfl | (simp only [List.length_drop, List.length_take]; rfl)) ?_
    with_reducible refine (H7.calls Y0 X0 _ _ W0 _ _ V0 C1 i1 ((rd_T32 l0_2 a0).f1.f0) ((rd_T32 l0_2 a0).f1.f1) _ _ ((rd_T32 l0_2 a0).f1.f2) _ _ ((rd_T32 l0_2 a0).f1.f3) ((rd_T32 l0_2 a0).f1.f4.f0) ((rd_T32 l0_2 a0).f1.f4.f1) false _ ?U1 ?Y3 ?V3 ?k4 ?J5 ?W5 ?bB ?qA qB.out).mono ?_
    (case U1 => repeat (first | exact (Kd.V_reads' HO_313002.out).2.2 | (with_reducible refine Kd.C_alloc ?_ _) | (with_reducible refine Kd.C_drewN ?_ _) | (with_reducible refine Kd.C_drew ?_)))
    (case Y3 => exact (Kd.V_reads' HO_313002.out).2.1)
    (case V3 => repeat (first | exact (Kd.V_reads' HO_313003.out).2.2 | (with_reducible refine Kd.C_alloc ?_ _) | (with_reducible refine Kd.C_drewN ?_ _) | (with_reducible refine Kd.C_drew ?_)))
    (case k4 => exact (Kd.V_reads' HO_313003.out).2.1)
    (case J5 => repeat (first | exact (gC C2) | (with_reducible refine Kd.C_alloc ?_ _) | (with_reducible refine Kd.C_drewN ?_ _) | (with_reducible refine Kd.C_drew ?_)))
    (case W5 => exact z6.out)
    (case bB => repeat (first | exact (gC Y1) | (with_reducible refine Kd.C_alloc ?_ _) | (with_reducible refine Kd.C_drewN ?_ _) | (with_reducible refine Kd.C_drew ?_)))
    (case qA => exact p6.out)
    rintro e xE ⟨rfl, hb⟩
    have bC := (hb.cell (World.block_lt_of_cell? _ _ (hHeld.2.2.2.2.2.2.2.2.2.1))).trans (hHeld.2.2.2.2.2.2.2.2.2.1)
    have vA := (hb.cell (World.block_lt_of_cell? _ _ (hHeld.2.2.2.2.2.2.2.2.2.2.1))).trans (hHeld.2.2.2.2.2.2.2.2.2.2.1)
    have N9 := (hb.cell (World.block_lt_of_cell? _ _ (hHeld.2.2.2.2.2.2.2.2.2.2.2.1))).trans (hHeld.2.2.2.2.2.2.2.2.2.2.2.1)
    have jA := (hb.cell (World.block_lt_of_cell? _ _ (hHeld.2.2.2.2.2.2.2.2.2.2.2.2.1))).trans (hHeld.2.2.2.2.2.2.2.2.2.2.2.2.1)
    have S9 := (hb.cell (World.block_lt_of_cell? _ _ (hHeld.2.2.2.2.2.2.2.2.2.2.2.2.2.1))).trans (hHeld.2.2.2.2.2.2.2.2.2.2.2.2.2.1)
    have gA := (hb.cell (World.block_lt_of_cell? _ _ (hHeld.2.2.2.2.2.2.2.2.2.2.2.2.2.2.1))).trans (hHeld.2.2.2.2.2.2.2.2.2.2.2.2.2.2.1)
    have rA := (hb.cell (World.block_lt_of_cell? _ _ (hHeld.2.2.2.2.2.2.2.2.2.2.2.2.2.2.2))).trans (hHeld.2.2.2.2.2.2.2.2.2.2.2.2.2.2.2)
    refine ⟨_, rfl, ?_⟩
    replace HO_312002 := tVb HO_312002 hb
    replace HO_313002 := tVb HO_313002 hb
    replace HO_313003 := tVb HO_313003 hb
    replace HO_329003 := tVb HO_329003 hb
    replace HO_329004 := tVb HO_329004 hb
    replace HO_342003 := tVb HO_342003 hb
    replace HO_342004 := tVb HO_342004 hb
    replace N3 := tVb N3 hb
    replace L3 := tVb L3 hb
    replace C0 := tBb C0 hb
    replace o0 := tBb o0 hb
    replace M0 := tBb M0 hb
    replace N0 := tBb N0 hb
    replace O0 := tBb O0 hb
    replace C2 := tCb C2 hb
    replace Y1 := tCb Y1 hb
    replace HB := tHb HB hb
    (try clear hb)
    (try clear hb2)
    (try clear hk)
    (try clear hi)
    refine hK.out _ _ ⟨(blk_cell C0.out 0).trans rfl, (blk_cell C0.out 1).trans rfl, (blk_cell C0.out 2).trans rfl, (blk_cell o0.out 0).trans rfl, (blk_cell o0.out 1).trans rfl, (blk_cell o0.out 2).trans rfl, (blk_cell o0.out 3).trans rfl, (blk_cell o0.out 4).trans rfl, (blk_cell o0.out 5).trans rfl, bC, vA, N9, jA, S9, gA, rA⟩ (fun hHeld => ?_)
    clear hK K
    refine norm_ (a' := ?_) ?_ ?_
    rotate_left
    ·
     show Act.put _ (some 70) _ = _
     simp only [Act.put, List.setIfInBounds_toArray, List.set_cons_zero, List.set_cons_succ, i64_w, i32_w]
     rfl
    refine pu_ 14 (some 71) 32767 HT_ (h := ?_)
    refine pu_ 15 (some 72) 65535 HT_ (h := ?_)
    refine done_ (done_of HT_.out (by kernel_rfl)) ?_
    try go_wp2
    go_roundg k1
    case measure => have := jD.out; omega
    case rel => exact ⟨(wrap64 (a0 + 1)), fr, H', kS jD, ⟨hV HO_312002⟩, ⟨hV HO_313002⟩, ⟨hV HO_313003⟩, ⟨hV HO_329003⟩, ⟨hV HO_329004⟩, ⟨hV HO_342003⟩, ⟨hV HO_342004⟩, ⟨gB C0⟩, ⟨gB o0⟩, ⟨gB M0⟩, ⟨gB N0⟩, ⟨gB O0⟩, ⟨bh HB⟩⟩
   rw [if_neg l5] at H
   have N6 : decide (a0 < (l0_2.length : Int)) = false := decide_eq_false l5
   clear l5
   obtain ⟨V4, i4⟩ : ∃ y_ : List (S32), y_ = (([] : List (S32))) := ⟨_, rfl⟩
   replace H : (if 0 ≤ a0 then (if a0 ≤ (l0_2.length : Int) then ((some (l0_2.take (a0 : Int).toNat : List (S32))).bind fun D2 => (if V4.length + D2.length < 1466015503701 then ((some (V4 ++ D2 : List (S32))).bind fun a3 => (if a3.length < 1466015503701 then ((some (a3 ++ [(⟨N2, (⟨Y0, X0, W0, V0, (⟨C1, i1⟩ : S28)⟩ : S30)⟩ : S32)] : List (S32))).bind fun P1 => ((some (l0_2.drop (a0 : Int).toNat : List (S32))).bind fun Z0 => (if P1.length + Z0.length < 1466015503701 then (some (a0_0, a0_1, (P1 ++ Z0), 0)) else (none)))) else (none))) else (none))) else (none)) else (none)) = some (r1, r2, r3, r4) := by first | (rw [i4]; with_reducible exact H) | (have H := (Option.bind_some _ _).symm.trans H; first | (rw [i4]; with_reducible exact H) | with_reducible exact H) | with_reducible exact H | (rw [i4]; exact H) | exact H
   have K6 := am_ i4
   clear i4
   revert H
   refine gi' (fun N7 H => ?_)
   have xB := eq_true N7
   have cC : decide (0 ≤ a0) = true := decide_eq_true N7
   clear N7
   revert H
   refine gi' (fun k8 H => ?_)
   have wB := eq_true k8
   have yB : decide (a0 ≤ (l0_2.length : Int)) = true := decide_eq_true k8
   clear k8
   obtain ⟨D2, Z3⟩ : ∃ y_ : List (S32), y_ = (l0_2.take (a0 : Int).toNat) := ⟨_, rfl⟩
   replace H : (if V4.length + D2.length < 1466015503701 then ((some (V4 ++ D2 : List (S32))).bind fun a3 => (if a3.length < 1466015503701 then ((some (a3 ++ [(⟨N2, (⟨Y0, X0, W0, V0, (⟨C1, i1⟩ : S28)⟩ : S30)⟩ : S32)] : List (S32))).bind fun P1 => ((some (l0_2.drop (a0 : Int).toNat : List (S32))).bind fun Z0 => (if P1.length + Z0.length < 1466015503701 then (some (a0_0, a0_1, (P1 ++ Z0), 0)) else (none)))) else (none))) else (none)) = some (r1, r2, r3, r4) := by first | (rw [Z3]; with_reducible exact H) | (have H := (Option.bind_some _ _).symm.trans H; first | (rw [Z3]; with_reducible exact H) | with_reducible exact H) | with_reducible exact H | (rw [Z3]; exact H) | exact H
   have J6 := am_ Z3
   clear Z3
   revert H
   refine gi' (fun P9 H => ?_)
   have r8 := am_ P9
   clear P9
   obtain ⟨a3, S3⟩ : ∃ y_ : List (S32), y_ = (V4 ++ D2) := ⟨_, rfl⟩
   replace H : (if a3.length < 1466015503701 then ((some (a3 ++ [(⟨N2, (⟨Y0, X0, W0, V0, (⟨C1, i1⟩ : S28)⟩ : S30)⟩ : S32)] : List (S32))).bind fun P1 => ((some (l0_2.drop (a0 : Int).toNat : List (S32))).bind fun Z0 => (if P1.length + Z0.length < 1466015503701 then (some (a0_0, a0_1, (P1 ++ Z0), 0)) else (none)))) else (none)) = some (r1, r2, r3, r4) := by first | (rw [S3]; with_reducible exact H) | (have H := (Option.bind_some _ _).symm.trans H; first | (rw [S3]; with_reducible exact H) | with_reducible exact H) | with_reducible exact H | (rw [S3]; exact H) | exact H
   have T9 := am_ S3
   clear S3
   revert H
   refine gi' (fun fA H => ?_)
   have a8 := am_ fA
   clear fA
   obtain ⟨P1, X3⟩ : ∃ y_ : List (S32), y_ = (a3 ++ [(⟨N2, (⟨Y0, X0, W0, V0, (⟨C1, i1⟩ : S28)⟩ : S30)⟩ : S32)]) := ⟨_, rfl⟩
   replace H : ((some (l0_2.drop (a0 : Int).toNat : List (S32))).bind fun Z0 => (if P1.length + Z0.length < 1466015503701 then (some (a0_0, a0_1, (P1 ++ Z0), 0)) else (none))) = some (r1, r2, r3, r4) := by first | (rw [X3]; with_reducible exact H) | (have H := (Option.bind_some _ _).symm.trans H; first | (rw [X3]; with_reducible exact H) | with_reducible exact H) | with_reducible exact H | (rw [X3]; exact H) | exact H
   have dB := am_ X3
   clear X3
   have dC := eq_true (dt : 0 ≤ a0)
   have fC := eq_true (dt : a0 ≤ (l0_2.length : Int))
   obtain ⟨Z0, U3⟩ : ∃ y_ : List (S32), y_ = (l0_2.drop (a0 : Int).toNat) := ⟨_, rfl⟩
   replace H : (if P1.length + Z0.length < 1466015503701 then (some (a0_0, a0_1, (P1 ++ Z0), 0)) else (none)) = some (r1, r2, r3, r4) := by first | (rw [U3]; with_reducible exact H) | (have H := (Option.bind_some _ _).symm.trans H; first | (rw [U3]; with_reducible exact H) | with_reducible exact H) | with_reducible exact H | (rw [U3]; exact H) | exact H
   have I6 := am_ U3
   clear U3
   revert H
   refine gi' (fun cB H => ?_)
   have E9 := am_ cB
   clear cB
   obtain ⟨Y9, W3⟩ : ∃ y_ : List (S32), y_ = (P1 ++ Z0) := ⟨_, rfl⟩
   replace H : (some (a0_0, a0_1, Y9, 0)) = some (r1, r2, r3, r4) := by first | (rw [W3]; with_reducible exact H) | (have H := (Option.bind_some _ _).symm.trans H; first | (rw [W3]; with_reducible exact H) | with_reducible exact H) | with_reducible exact H | (rw [W3]; exact H) | exact H
   have mA := am_ W3
   clear W3
   simp only [Option.some.injEq, Prod.mk.injEq] at H
   obtain ⟨rfl, rfl, rfl, rfl⟩ := H
   try go_wp2
   replace HO_312002 := am_ (Kd.V_drew HO_312002.out)
   replace HO_313002 := am_ (Kd.V_drew HO_313002.out)
   replace HO_313003 := am_ (Kd.V_drew HO_313003.out)
   replace HO_329003 := am_ (Kd.V_drew HO_329003.out)
   replace HO_329004 := am_ (Kd.V_drew HO_329004.out)
   replace HO_342003 := am_ (Kd.V_drew HO_342003.out)
   replace HO_342004 := am_ (Kd.V_drew HO_342004.out)
   replace C0 := am_ (blk_drew C0.out)
   replace o0 := am_ (blk_drew o0.out)
   replace M0 := am_ (blk_drew M0.out)
   replace N0 := am_ (blk_drew N0.out)
   replace O0 := am_ (blk_drew O0.out)
   replace HB := am_ (below_drew1 HB.out)
   refine st_ 16 [] (k3_ C0 ct) (fun hHeld => ?_); refine with_tabW Fn.tab16 Fn.bits16 (fun HT_ HW_ => ?_)
   generalize wr.drew = mC at HO_312002 HO_313002 HO_313003 HO_329003 HO_329004 HO_342003 HO_342004 C0 o0 M0 N0 O0 HB hHeld ⊢
   refine pu_ 0 (some 57) 1 HT_ (h := ?_)
   refine pu_ 1 (some 58) 3 HT_ (h := ?_)
   refine tk_ 2 (some 59) 7 HT_ HW_ hHeld (h := ?_)
   refine pu_ 3 (some 60) 15 HT_ (h := ?_)
   refine pu_ 4 (some 61) 31 HT_ (h := ?_)
   refine pu_ 5 (some 62) 63 HT_ (h := ?_)
   refine pure_ (i := 6) (N := some 63) (v := undef) (a' := ?_) #[true, true, true, true, true, true, true, false, false, false, false, false, false, false, false, false] rfl rfl (any_of HT_.out (by kernel_rfl)) (fun _ _ _ h => h) (Or.inr ⟨by rfl, rfl⟩) ?_ ?_
   rotate_left
   ·
    simp only [Act.put, List.setIfInBounds_toArray, List.set_cons_zero, List.set_cons_succ, i64_w, i32_w]
    rfl
   refine pure_ (i := 7) (N := some 64) (v := undef) (a' := ?_) #[true, true, true, true, true, true, true, true, false, false, false, false, false, false, false, false] rfl rfl (any_of HT_.out (by kernel_rfl)) (fun _ _ _ h => h) (Or.inr ⟨by rfl, rfl⟩) ?_ ?_
   rotate_left
   ·
    simp only [Act.put, List.setIfInBounds_toArray, List.set_cons_zero, List.set_cons_succ, i64_w, i32_w]
    rfl
   refine pure_ (i := 8) (N := some 65) (v := undef) (a' := ?_) #[true, true, true, true, true, true, true, true, true, false, false, false, false, false, false, false] rfl rfl (any_of HT_.out (by kernel_rfl)) (fun _ _ _ h => h) (Or.inr ⟨by rfl, rfl⟩) ?_ ?_
   rotate_left
   ·
    simp only [Act.put, List.setIfInBounds_toArray, List.set_cons_zero, List.set_cons_succ, i64_w, i32_w]
    rfl
   refine pure_ (i := 9) (N := some 66) (v := undef) (a' := ?_) #[true, true, true, true, true, true, true, true, true, true, false, false, false, false, false, false] rfl rfl (any_of HT_.out (by kernel_rfl)) (fun _ _ _ h => h) (Or.inr ⟨by rfl, rfl⟩) ?_ ?_
   rotate_left
   ·
    simp only [Act.put, List.setIfInBounds_toArray, List.set_cons_zero, List.set_cons_succ, i64_w, i32_w]
    rfl
   refine pure_ (i := 10) (N := some 67) (v := undef) (a' := ?_) #[true, true, true, true, true, true, true, true, true, true, true, false, false, false, false, false] rfl rfl (any_of HT_.out (by kernel_rfl)) (fun _ _ _ h => h) (Or.inr ⟨by rfl, rfl⟩) ?_ ?_
   rotate_left
   ·
    simp only [Act.put, List.setIfInBounds_toArray, List.set_cons_zero, List.set_cons_succ, i64_w, i32_w]
    rfl
   refine pure_ (i := 11) (N := some 68) (v := undef) (a' := ?_) #[true, true, true, true, true, true, true, true, true, true, true, true, false, false, false, false] rfl rfl (any_of HT_.out (by kernel_rfl)) (fun _ _ _ h => h) (Or.inr ⟨by rfl, rfl⟩) ?_ ?_
   rotate_left
   ·
    simp only [Act.put, List.setIfInBounds_toArray, List.set_cons_zero, List.set_cons_succ, i64_w, i32_w]
    rfl
   refine pure_ (i := 12) (N := some 69) (v := undef) (a' := ?_) #[true, true, true, true, true, true, true, true, true, true, true, true, true, false, false, false] rfl rfl (any_of HT_.out (by kernel_rfl)) (fun _ _ _ h => h) (Or.inr ⟨by rfl, rfl⟩) ?_ ?_
   rotate_left
   ·
    simp only [Act.put, List.setIfInBounds_toArray, List.set_cons_zero, List.set_cons_succ, i64_w, i32_w]
    rfl
   refine pure_ (i := 13) (N := some 70) (v := undef) (a' := ?_) #[true, true, true, true, true, true, true, true, true, true, true, true, true, true, false, false] rfl rfl (any_of HT_.out (by kernel_rfl)) (fun _ _ _ h => h) (Or.inr ⟨by rfl, rfl⟩) ?_ ?_
   rotate_left
   ·
    simp only [Act.put, List.setIfInBounds_toArray, List.set_cons_zero, List.set_cons_succ, i64_w, i32_w]
    rfl
   refine pure_ (i := 14) (N := some 71) (v := undef) (a' := ?_) #[true, true, true, true, true, true, true, true, true, true, true, true, true, true, true, false] rfl rfl (any_of HT_.out (by kernel_rfl)) (fun _ _ _ h => h) (Or.inr ⟨by rfl, rfl⟩) ?_ ?_
   rotate_left
   ·
    simp only [Act.put, List.setIfInBounds_toArray, List.set_cons_zero, List.set_cons_succ, i64_w, i32_w]
    rfl
   refine pu_ 15 (some 72) 65535 HT_ (h := ?_)
   refine done_ (done_of HT_.out (by kernel_rfl)) ?_
   try go_wp2_with (first | ((with_reducible refine gd_ 75 ?_); refine Kd.N_lit k32 _ 32 ?hg (N' := 75) ?hd (xs := ([] : List (S32))) (inner := []) (ok := (fun k_ => ((z0 k_ ∨ u0 k_ ∨ A0 k_) ∨ w.heap.size ≤ k_) ∧ k_ ≠ E0 ∧ k_ ≠ m0 ∧ k_ ≠ I0 ∧ k_ ≠ n0 ∧ k_ ≠ L0)) (okp := (fun k_ => ((z0 k_ ∨ u0 k_ ∨ A0 k_) ∨ w.heap.size ≤ k_) ∧ k_ ≠ E0 ∧ k_ ≠ m0 ∧ k_ ≠ I0 ∧ k_ ≠ n0 ∧ k_ ≠ L0)) ?hr ?hp (fun _ hk => hk) ((show ∀ k_, mC.heap.size ≤ k_ → (fun k_ => ((z0 k_ ∨ u0 k_ ∨ A0 k_) ∨ w.heap.size ≤ k_) ∧ k_ ≠ E0 ∧ k_ ≠ m0 ∧ k_ ≠ I0 ∧ k_ ≠ n0 ∧ k_ ≠ L0) k_ from fun k_ hk => ⟨(.inr (Nat.le_trans (below_size (bh HB)) hk)), gFr C0 k_ hk, gFr o0 k_ hk, gFr M0 k_ hk, gFr N0 k_ hk, gFr O0 k_ hk⟩) _ (Nat.le_refl _)) (Below.refl _ _) (Nat.le_refl _) (by simp) ?_; (case hd => rfl); (case hg => rfl); (case hr => first | (go_simp; done) | (go_simp; rfl)); (case hp => exact (Reps.none _ _)); intro M6 sD L1 hb hg_ hnew_; clear hg_ hnew_; (first | rw [← K6.out] at L1 | (simp only [Int.reduceToNat] at L1; rw [← K6.out] at L1)); replace HO_312002 := am_ (Kd.V_elder' (hV HO_312002) (Kd.N_base L1) hb); replace HO_313002 := am_ (Kd.V_elder' (hV HO_313002) (Kd.N_base L1) hb); replace HO_313003 := am_ (Kd.V_elder' (hV HO_313003) (Kd.N_base L1) hb); replace HO_329003 := am_ (Kd.V_elder' (hV HO_329003) (Kd.N_base L1) hb); replace HO_329004 := am_ (Kd.V_elder' (hV HO_329004) (Kd.N_base L1) hb); replace HO_342003 := am_ (Kd.V_elder' (hV HO_342003) (Kd.N_base L1) hb); replace HO_342004 := am_ (Kd.V_elder' (hV HO_342004) (Kd.N_base L1) hb); have Q2 := am_ (Kd.N_lower L1 (below_size (bh HB))); replace C0 := tBb C0 hb; replace o0 := tBb o0 hb; replace M0 := tBb M0 hb; replace N0 := tBb N0 hb; replace O0 := tBb O0 hb; replace HB := tHb HB hb; clear hb L1; obtain ⟨_, _⟩ := n2 b5; obtain ⟨_, _⟩ := n2 i3; obtain ⟨_, _⟩ := n2 D5; obtain ⟨_, _⟩ := n2 Y4; obtain ⟨_, _, _, _, _, _⟩ := bx3 C0; have K8 : (a0 : Int) ≤ ((l0_2.length : Int) : Int) := dt; obtain ⟨cD, S5, _, d8, _⟩ := info_parts info32; have j4 : l0_2.length ≤ c0_2 := (Kd.V_reads' HO_312002.out).2.1; have E6 : Kd.F k32 _ _ A0_2 l0_2.length l0_2 := (Kd.V_at (base := w.heap.size) HO_312002.out).2.2; have j6 := cut_to (P := Tryz.prog) 22 32 .i64 Tryz.underlying22 S5 A0_2 l0_2.length c0_2 a0 (dt) K8 j4; have Q5 := Kd.F_take (m := (a0 : Int).toNat) E6 (by omega); have O5 : D2.length = (a0 : Int).toNat := (by rw [J6.out, List.length_take]; omega); rw [← J6.out] at Q5; rw [← O5] at j6; have L2 := am_ (show Kd.V k32 32 _ w.heap.size _ (.slice A0_2 D2.length c0_2) D2 from Kd.V_mk (by omega) Q5); have tC := am_ (show D2.length ≤ c0_2 from by omega); clear Q5 E6 j4 S5 d8; have wC := am_ O5; clear O5; replace K8 := eq_true K8) | ((with_reducible refine gate_builtin (b := .append) (xs := #[.tmp 75, .tmp 79]) rfl ?_); at_builtin; refine Kd.N_append_rows k32 (w0 := w) w.heap.size rfl (.tmp 75) (.tmp 79) 22 32 (.agg #[(.string ⟨#[]⟩), (.int .i64 0), (.int .i64 0), (.slice none 0 0), (.slice none 0 0), (.int .i64 0), (.int .i64 0)]) 96 rfl Tryz.underlying22 info32 rfl (by decide) (by omega) M6 V4 D2 _ _ _ (fun k_ => ((z0 k_ ∨ u0 k_ ∨ A0 k_) ∨ w.heap.size ≤ k_) ∧ k_ ≠ E0 ∧ k_ ≠ m0 ∧ k_ ≠ I0 ∧ k_ ≠ n0 ∧ k_ ≠ L0) (fun k_ => ((fun k_ => ((z0 k_ ∨ u0 k_ ∨ A0 k_) ∨ w.heap.size ≤ k_) ∧ k_ ≠ E0 ∧ k_ ≠ m0 ∧ k_ ≠ I0 ∧ k_ ≠ n0 ∧ k_ ≠ L0)) k_ ∧ some k_ ≠ (M6 : Value).ownBlock) rfl rfl ?aO ?aR (fun _ hk => hk) ?aF ?aB ?aS ?aL ?_; (case aR => exact (by skip; exact Kd.V_F (Kd.V_mono (ok' := (fun k_ => ((fun k_ => ((z0 k_ ∨ u0 k_ ∨ A0 k_) ∨ w.heap.size ≤ k_) ∧ k_ ≠ E0 ∧ k_ ≠ m0 ∧ k_ ≠ I0 ∧ k_ ≠ n0 ∧ k_ ≠ L0)) k_ ∧ some k_ ≠ (M6 : Value).ownBlock)) (L2.out) (fun k_ hk => ⟨⟨hk.1.1, ⟨hk.1.2.1, ⟨hk.1.2.2.1, ⟨hk.1.2.2.2.1, ⟨hk.1.2.2.2.2.1, hk.1.2.2.2.2.2⟩⟩⟩⟩⟩, hk.2⟩)))); (case aB => exact (bh HB)); (case aF => exact (fun k_ hk => ⟨(.inr (Nat.le_trans (below_size (bh HB)) hk)), gFr C0 k_ hk, gFr o0 k_ hk, gFr M0 k_ hk, gFr N0 k_ hk, gFr O0 k_ hk⟩)); (case aO => exact (hN Q2)); (case aS => exact (below_size (bh HB))); (case aL => have := r8.out; omega); intro X4 nE ho hb hg hat; rw [← T9.out] at ho; replace HO_312002 := am_ (Kd.V_afterv (ok := (fun k_ => ((z0 k_ ∨ u0 k_ ∨ A0 k_) ∨ w.heap.size ≤ k_) ∧ k_ ≠ E0 ∧ k_ ≠ m0 ∧ k_ ≠ I0 ∧ k_ ≠ n0 ∧ k_ ≠ L0)) (hV HO_312002) hg hat); replace HO_313002 := am_ (Kd.V_afterv (ok := (fun k_ => ((z0 k_ ∨ u0 k_ ∨ A0 k_) ∨ w.heap.size ≤ k_) ∧ k_ ≠ E0 ∧ k_ ≠ m0 ∧ k_ ≠ I0 ∧ k_ ≠ n0 ∧ k_ ≠ L0)) (hV HO_313002) hg hat); replace HO_313003 := am_ (Kd.V_afterv (ok := (fun k_ => ((z0 k_ ∨ u0 k_ ∨ A0 k_) ∨ w.heap.size ≤ k_) ∧ k_ ≠ E0 ∧ k_ ≠ m0 ∧ k_ ≠ I0 ∧ k_ ≠ n0 ∧ k_ ≠ L0)) (hV HO_313003) hg hat); replace HO_329003 := am_ (Kd.V_afterv (ok := (fun k_ => ((z0 k_ ∨ u0 k_ ∨ A0 k_) ∨ w.heap.size ≤ k_) ∧ k_ ≠ E0 ∧ k_ ≠ m0 ∧ k_ ≠ I0 ∧ k_ ≠ n0 ∧ k_ ≠ L0)) (hV HO_329003) hg hat); replace HO_329004 := am_ (Kd.V_afterv (ok := (fun k_ => ((z0 k_ ∨ u0 k_ ∨ A0 k_) ∨ w.heap.size ≤ k_) ∧ k_ ≠ E0 ∧ k_ ≠ m0 ∧ k_ ≠ I0 ∧ k_ ≠ n0 ∧ k_ ≠ L0)) (hV HO_329004) hg hat); replace HO_342003 := am_ (Kd.V_afterv (ok := (fun k_ => ((z0 k_ ∨ u0 k_ ∨ A0 k_) ∨ w.heap.size ≤ k_) ∧ k_ ≠ E0 ∧ k_ ≠ m0 ∧ k_ ≠ I0 ∧ k_ ≠ n0 ∧ k_ ≠ L0)) (hV HO_342003) hg hat); replace HO_342004 := am_ (Kd.V_afterv (ok := (fun k_ => ((z0 k_ ∨ u0 k_ ∨ A0 k_) ∨ w.heap.size ≤ k_) ∧ k_ ≠ E0 ∧ k_ ≠ m0 ∧ k_ ≠ I0 ∧ k_ ≠ n0 ∧ k_ ≠ L0)) (hV HO_342004) hg hat); replace C0 := tBg C0 hg (Kd.N_ne Q2.out C0.out (by decide)); replace o0 := tBg o0 hg (Kd.N_ne Q2.out o0.out (by decide)); replace M0 := tBg M0 hg (Kd.N_ne Q2.out M0.out (by decide)); replace N0 := tBg N0 hg (Kd.N_away Q2.out (fun _ hk => hk.2.2.2.2.1)); replace O0 := tBg O0 hg (Kd.N_away Q2.out (fun _ hk => hk.2.2.2.2.2)); replace L2 := am_ (Kd.V_afterv (ok := (fun k_ => ((z0 k_ ∨ u0 k_ ∨ A0 k_) ∨ w.heap.size ≤ k_) ∧ k_ ≠ E0 ∧ k_ ≠ m0 ∧ k_ ≠ I0 ∧ k_ ≠ n0 ∧ k_ ≠ L0)) (hV L2) hg hat); replace HB := am_ hb; have Z2 := am_ (ho); clear Q2 ho hb hg hat; obtain ⟨_, _⟩ := n2 k3; obtain ⟨_, _⟩ := n2 m5; obtain ⟨_, _⟩ := n2 j5; obtain ⟨_, _, _, _, _, _, _, _, _, _, _, _⟩ := bx6 o0) | ((with_reducible refine gate_builtin (b := .append) (xs := #[.tmp 81, .tmp 85]) rfl ?_); at_builtin; refine Kd.N_append k32 (w0 := w) w.heap.size rfl (.tmp 81) (.tmp 85) 22 32 (.agg #[(.string ⟨#[]⟩), (.int .i64 0), (.int .i64 0), (.slice none 0 0), (.slice none 0 0), (.int .i64 0), (.int .i64 0)]) 96 rfl Tryz.underlying22 info32 rfl (by decide) (by omega) X4 a3 (⟨N2, (⟨Y0, X0, W0, V0, (⟨C1, i1⟩ : S28)⟩ : S30)⟩ : S32) [.string N2, .int .i64 Y0, .int .i64 X0, .slice Y2 W0.length X1, .slice J2 V0.length V1, .int .i64 C1, .int .i64 i1] (fun k_ => ((z0 k_ ∨ u0 k_ ∨ A0 k_) ∨ w.heap.size ≤ k_) ∧ k_ ≠ E0 ∧ k_ ≠ m0 ∧ k_ ≠ I0 ∧ k_ ≠ n0 ∧ k_ ≠ L0) (fun k_ => ((fun k_ => ((z0 k_ ∨ u0 k_ ∨ A0 k_) ∨ w.heap.size ≤ k_) ∧ k_ ≠ E0 ∧ k_ ≠ m0 ∧ k_ ≠ I0 ∧ k_ ≠ n0 ∧ k_ ≠ L0)) k_ ∧ some k_ ≠ (X4 : Value).ownBlock) rfl rfl ?aP (fun _ hk => hk) ?aF ?aO ?aB ?aS ?aL ?_; (case aP => exact (k32_mkF _ _ (⟨N2, (⟨Y0, X0, W0, V0, (⟨C1, i1⟩ : S28)⟩ : S30)⟩ : S32) (Kd.V_reads' (Kd.V_mono (ok' := (fun k_ => ((fun k_ => ((z0 k_ ∨ u0 k_ ∨ A0 k_) ∨ w.heap.size ≤ k_) ∧ k_ ≠ E0 ∧ k_ ≠ m0 ∧ k_ ≠ I0 ∧ k_ ≠ n0 ∧ k_ ≠ L0)) k_ ∧ some k_ ≠ (X4 : Value).ownBlock)) (HO_313002.out) (fun k_ hk => ⟨⟨hk.1.1, ⟨hk.1.2.1, ⟨hk.1.2.2.1, ⟨hk.1.2.2.2.1, ⟨hk.1.2.2.2.2.1, hk.1.2.2.2.2.2⟩⟩⟩⟩⟩, hk.2⟩))).2.1 (Kd.V_F (Kd.V_mono (ok' := (fun k_ => ((fun k_ => ((z0 k_ ∨ u0 k_ ∨ A0 k_) ∨ w.heap.size ≤ k_) ∧ k_ ≠ E0 ∧ k_ ≠ m0 ∧ k_ ≠ I0 ∧ k_ ≠ n0 ∧ k_ ≠ L0)) k_ ∧ some k_ ≠ (X4 : Value).ownBlock)) (HO_313002.out) (fun k_ hk => ⟨⟨hk.1.1, ⟨hk.1.2.1, ⟨hk.1.2.2.1, ⟨hk.1.2.2.2.1, ⟨hk.1.2.2.2.2.1, hk.1.2.2.2.2.2⟩⟩⟩⟩⟩, hk.2⟩))) (Kd.V_reads' (Kd.V_mono (ok' := (fun k_ => ((fun k_ => ((z0 k_ ∨ u0 k_ ∨ A0 k_) ∨ w.heap.size ≤ k_) ∧ k_ ≠ E0 ∧ k_ ≠ m0 ∧ k_ ≠ I0 ∧ k_ ≠ n0 ∧ k_ ≠ L0)) k_ ∧ some k_ ≠ (X4 : Value).ownBlock)) (HO_313003.out) (fun k_ hk => ⟨⟨hk.1.1, ⟨hk.1.2.1, ⟨hk.1.2.2.1, ⟨hk.1.2.2.2.1, ⟨hk.1.2.2.2.2.1, hk.1.2.2.2.2.2⟩⟩⟩⟩⟩, hk.2⟩))).2.1 (Kd.V_F (Kd.V_mono (ok' := (fun k_ => ((fun k_ => ((z0 k_ ∨ u0 k_ ∨ A0 k_) ∨ w.heap.size ≤ k_) ∧ k_ ≠ E0 ∧ k_ ≠ m0 ∧ k_ ≠ I0 ∧ k_ ≠ n0 ∧ k_ ≠ L0)) k_ ∧ some k_ ≠ (X4 : Value).ownBlock)) (HO_313003.out) (fun k_ hk => ⟨⟨hk.1.1, ⟨hk.1.2.1, ⟨hk.1.2.2.1, ⟨hk.1.2.2.2.1, ⟨hk.1.2.2.2.2.1, hk.1.2.2.2.2.2⟩⟩⟩⟩⟩, hk.2⟩))))); (case aB => exact (bh HB)); (case aF => exact (fun k_ hk => ⟨(.inr (Nat.le_trans (below_size (bh HB)) hk)), gFr C0 k_ hk, gFr o0 k_ hk, gFr M0 k_ hk, gFr N0 k_ hk, gFr O0 k_ hk⟩)); (case aO => exact (hN Z2)); (case aS => exact (below_size (bh HB))); (case aL => have := a8.out; omega); intro j7 rE ho hb hg hat; rw [← dB.out] at ho; replace HO_312002 := am_ (Kd.V_afterv (ok := (fun k_ => ((z0 k_ ∨ u0 k_ ∨ A0 k_) ∨ w.heap.size ≤ k_) ∧ k_ ≠ E0 ∧ k_ ≠ m0 ∧ k_ ≠ I0 ∧ k_ ≠ n0 ∧ k_ ≠ L0)) (hV HO_312002) hg hat); replace HO_313002 := am_ (Kd.V_afterv (ok := (fun k_ => ((z0 k_ ∨ u0 k_ ∨ A0 k_) ∨ w.heap.size ≤ k_) ∧ k_ ≠ E0 ∧ k_ ≠ m0 ∧ k_ ≠ I0 ∧ k_ ≠ n0 ∧ k_ ≠ L0)) (hV HO_313002) hg hat); replace HO_313003 := am_ (Kd.V_afterv (ok := (fun k_ => ((z0 k_ ∨ u0 k_ ∨ A0 k_) ∨ w.heap.size ≤ k_) ∧ k_ ≠ E0 ∧ k_ ≠ m0 ∧ k_ ≠ I0 ∧ k_ ≠ n0 ∧ k_ ≠ L0)) (hV HO_313003) hg hat); replace HO_329003 := am_ (Kd.V_afterv (ok := (fun k_ => ((z0 k_ ∨ u0 k_ ∨ A0 k_) ∨ w.heap.size ≤ k_) ∧ k_ ≠ E0 ∧ k_ ≠ m0 ∧ k_ ≠ I0 ∧ k_ ≠ n0 ∧ k_ ≠ L0)) (hV HO_329003) hg hat); replace HO_329004 := am_ (Kd.V_afterv (ok := (fun k_ => ((z0 k_ ∨ u0 k_ ∨ A0 k_) ∨ w.heap.size ≤ k_) ∧ k_ ≠ E0 ∧ k_ ≠ m0 ∧ k_ ≠ I0 ∧ k_ ≠ n0 ∧ k_ ≠ L0)) (hV HO_329004) hg hat); replace HO_342003 := am_ (Kd.V_afterv (ok := (fun k_ => ((z0 k_ ∨ u0 k_ ∨ A0 k_) ∨ w.heap.size ≤ k_) ∧ k_ ≠ E0 ∧ k_ ≠ m0 ∧ k_ ≠ I0 ∧ k_ ≠ n0 ∧ k_ ≠ L0)) (hV HO_342003) hg hat); replace HO_342004 := am_ (Kd.V_afterv (ok := (fun k_ => ((z0 k_ ∨ u0 k_ ∨ A0 k_) ∨ w.heap.size ≤ k_) ∧ k_ ≠ E0 ∧ k_ ≠ m0 ∧ k_ ≠ I0 ∧ k_ ≠ n0 ∧ k_ ≠ L0)) (hV HO_342004) hg hat); replace C0 := tBg C0 hg (Kd.N_ne Z2.out C0.out (by decide)); replace o0 := tBg o0 hg (Kd.N_ne Z2.out o0.out (by decide)); replace M0 := tBg M0 hg (Kd.N_ne Z2.out M0.out (by decide)); replace N0 := tBg N0 hg (Kd.N_away Z2.out (fun _ hk => hk.2.2.2.2.1)); replace O0 := tBg O0 hg (Kd.N_away Z2.out (fun _ hk => hk.2.2.2.2.2)); replace L2 := am_ (Kd.V_afterv (ok := (fun k_ => ((z0 k_ ∨ u0 k_ ∨ A0 k_) ∨ w.heap.size ≤ k_) ∧ k_ ≠ E0 ∧ k_ ≠ m0 ∧ k_ ≠ I0 ∧ k_ ≠ n0 ∧ k_ ≠ L0)) (hV L2) hg hat); replace HB := am_ hb; have V2 := am_ (ho); clear Z2 ho hb hg hat; obtain ⟨_, _, _, _, _, _⟩ := bx3 C0; have Q8 : (a0 : Int) ≤ ((l0_2.length : Int) : Int) := dt; obtain ⟨xC, U5, _, X5, _⟩ := info_parts info32; have Q1 : l0_2.length ≤ c0_2 := (Kd.V_reads' HO_312002.out).2.1; have L6 : Kd.F k32 _ _ A0_2 l0_2.length l0_2 := (Kd.V_at (base := w.heap.size) HO_312002.out).2.2; have zA : (0 : Int) ≤ (a0 : Int) := dt; have r6 := cut_from (P := Tryz.prog) 22 32 .i64 Tryz.underlying22 U5 7 X5 A0_2 l0_2.length c0_2 a0 zA Q8; have a4 := Kd.F_cut (m := (a0 : Int).toNat) (c := c0_2) L6 (by omega) Q1; obtain ⟨xA, D4⟩ : ∃ A1, A1 = (if c0_2 = (a0 : Int).toNat then A0_2 else (A0_2 : Option Addr).map (·.add ((a0 : Int).toNat * 7))) := ⟨_, rfl⟩; obtain ⟨yA, s4⟩ : ∃ c1, c1 = c0_2 - (a0 : Int).toNat := ⟨_, rfl⟩; have Q3 : Z0.length = l0_2.length - (a0 : Int).toNat := (by rw [I6.out, List.length_drop] <;> omega); rw [show (l0_2).drop (a0 : Int).toNat = Z0 from I6.out.symm] at a4; replace a4 : Kd.F k32 _ _ xA Z0.length Z0 := (by rw [D4]; exact a4); rw [← Q3, ← D4, ← s4] at r6; have Z5 := am_ (show Kd.V k32 32 _ w.heap.size _ (.slice xA Z0.length yA) Z0 from Kd.V_mk (by rw [Q3, s4]; exact Nat.sub_le_sub_right Q1 _) a4); have dD := am_ (show Z0.length ≤ yA from by rw [Q3, s4]; exact Nat.sub_le_sub_right Q1 _); clear a4 L6 Q1 U5 X5 s4; have nC := am_ Q3; have gD := am_ D4; clear Q3 D4; replace Q8 := eq_true Q8) | ((with_reducible refine gate_builtin (b := .append) (xs := #[.tmp 87, .tmp 91]) rfl ?_); at_builtin; refine Kd.N_append_rows k32 (w0 := w) w.heap.size rfl (.tmp 87) (.tmp 91) 22 32 (.agg #[(.string ⟨#[]⟩), (.int .i64 0), (.int .i64 0), (.slice none 0 0), (.slice none 0 0), (.int .i64 0), (.int .i64 0)]) 96 rfl Tryz.underlying22 info32 rfl (by decide) (by omega) j7 P1 Z0 _ _ _ (fun k_ => ((z0 k_ ∨ u0 k_ ∨ A0 k_) ∨ w.heap.size ≤ k_) ∧ k_ ≠ E0 ∧ k_ ≠ m0 ∧ k_ ≠ I0 ∧ k_ ≠ n0 ∧ k_ ≠ L0) (fun k_ => ((fun k_ => ((z0 k_ ∨ u0 k_ ∨ A0 k_) ∨ w.heap.size ≤ k_) ∧ k_ ≠ E0 ∧ k_ ≠ m0 ∧ k_ ≠ I0 ∧ k_ ≠ n0 ∧ k_ ≠ L0)) k_ ∧ some k_ ≠ (j7 : Value).ownBlock) rfl rfl ?aO ?aR (fun _ hk => hk) ?aF ?aB ?aS ?aL ?_; (case aR => exact (by skip; exact Kd.V_F (Kd.V_mono (ok' := (fun k_ => ((fun k_ => ((z0 k_ ∨ u0 k_ ∨ A0 k_) ∨ w.heap.size ≤ k_) ∧ k_ ≠ E0 ∧ k_ ≠ m0 ∧ k_ ≠ I0 ∧ k_ ≠ n0 ∧ k_ ≠ L0)) k_ ∧ some k_ ≠ (j7 : Value).ownBlock)) (Z5.out) (fun k_ hk => ⟨⟨hk.1.1, ⟨hk.1.2.1, ⟨hk.1.2.2.1, ⟨hk.1.2.2.2.1, ⟨hk.1.2.2.2.2.1, hk.1.2.2.2.2.2⟩⟩⟩⟩⟩, hk.2⟩)))); (case aB => exact (bh HB)); (case aF => exact (fun k_ hk => ⟨(.inr (Nat.le_trans (below_size (bh HB)) hk)), gFr C0 k_ hk, gFr o0 k_ hk, gFr M0 k_ hk, gFr N0 k_ hk, gFr O0 k_ hk⟩)); (case aO => exact (hN V2)); (case aS => exact (below_size (bh HB))); (case aL => have := E9.out; omega); intro yE dE ho hb hg hat; rw [← mA.out] at ho; replace HO_312002 := am_ (Kd.V_afterv (ok := (fun k_ => ((z0 k_ ∨ u0 k_ ∨ A0 k_) ∨ w.heap.size ≤ k_) ∧ k_ ≠ E0 ∧ k_ ≠ m0 ∧ k_ ≠ I0 ∧ k_ ≠ n0 ∧ k_ ≠ L0)) (hV HO_312002) hg hat); replace HO_313002 := am_ (Kd.V_afterv (ok := (fun k_ => ((z0 k_ ∨ u0 k_ ∨ A0 k_) ∨ w.heap.size ≤ k_) ∧ k_ ≠ E0 ∧ k_ ≠ m0 ∧ k_ ≠ I0 ∧ k_ ≠ n0 ∧ k_ ≠ L0)) (hV HO_313002) hg hat); replace HO_313003 := am_ (Kd.V_afterv (ok := (fun k_ => ((z0 k_ ∨ u0 k_ ∨ A0 k_) ∨ w.heap.size ≤ k_) ∧ k_ ≠ E0 ∧ k_ ≠ m0 ∧ k_ ≠ I0 ∧ k_ ≠ n0 ∧ k_ ≠ L0)) (hV HO_313003) hg hat); replace HO_329003 := am_ (Kd.V_afterv (ok := (fun k_ => ((z0 k_ ∨ u0 k_ ∨ A0 k_) ∨ w.heap.size ≤ k_) ∧ k_ ≠ E0 ∧ k_ ≠ m0 ∧ k_ ≠ I0 ∧ k_ ≠ n0 ∧ k_ ≠ L0)) (hV HO_329003) hg hat); replace HO_329004 := am_ (Kd.V_afterv (ok := (fun k_ => ((z0 k_ ∨ u0 k_ ∨ A0 k_) ∨ w.heap.size ≤ k_) ∧ k_ ≠ E0 ∧ k_ ≠ m0 ∧ k_ ≠ I0 ∧ k_ ≠ n0 ∧ k_ ≠ L0)) (hV HO_329004) hg hat); replace HO_342003 := am_ (Kd.V_afterv (ok := (fun k_ => ((z0 k_ ∨ u0 k_ ∨ A0 k_) ∨ w.heap.size ≤ k_) ∧ k_ ≠ E0 ∧ k_ ≠ m0 ∧ k_ ≠ I0 ∧ k_ ≠ n0 ∧ k_ ≠ L0)) (hV HO_342003) hg hat); replace HO_342004 := am_ (Kd.V_afterv (ok := (fun k_ => ((z0 k_ ∨ u0 k_ ∨ A0 k_) ∨ w.heap.size ≤ k_) ∧ k_ ≠ E0 ∧ k_ ≠ m0 ∧ k_ ≠ I0 ∧ k_ ≠ n0 ∧ k_ ≠ L0)) (hV HO_342004) hg hat); replace C0 := tBg C0 hg (Kd.N_ne V2.out C0.out (by decide)); replace o0 := tBg o0 hg (Kd.N_ne V2.out o0.out (by decide)); replace M0 := tBg M0 hg (Kd.N_ne V2.out M0.out (by decide)); replace N0 := tBg N0 hg (Kd.N_away V2.out (fun _ hk => hk.2.2.2.2.1)); replace O0 := tBg O0 hg (Kd.N_away V2.out (fun _ hk => hk.2.2.2.2.2)); replace L2 := am_ (Kd.V_afterv (ok := (fun k_ => ((z0 k_ ∨ u0 k_ ∨ A0 k_) ∨ w.heap.size ≤ k_) ∧ k_ ≠ E0 ∧ k_ ≠ m0 ∧ k_ ≠ I0 ∧ k_ ≠ n0 ∧ k_ ≠ L0)) (hV L2) hg hat); replace Z5 := am_ (Kd.V_afterv (ok := (fun k_ => ((z0 k_ ∨ u0 k_ ∨ A0 k_) ∨ w.heap.size ≤ k_) ∧ k_ ≠ E0 ∧ k_ ≠ m0 ∧ k_ ≠ I0 ∧ k_ ≠ n0 ∧ k_ ≠ L0)) (hV Z5) hg hat); replace HB := am_ hb; have C6 := am_ (ho); clear V2 ho hb hg hat; obtain ⟨_, _, _, _, _, _⟩ := bx3 C0; obtain ⟨sA, nA, O9⟩ := Kd.N_slice C6.out; subst O9; obtain ⟨_, _⟩ := n2 Z4; obtain ⟨_, _⟩ := n2 i5; obtain ⟨_, _, _, _, _, _⟩ := bx3 M0))
   refine bodyPost_ret (results_ct rfl _ _ I0 24 #[.int .i64 a0_0, .int .i64 a0_1, .slice sA Y9.length nA] (0, 0) _ rfl (gP M0 rfl) Tryz.underlying24 rfl (by kernel_rfl)) rfl ?_
   exact ⟨_, fe, Kd.N_V (gN C6), bh HB⟩
end Go.Proofs.YtopijobdblfhoaaGreat.PTuskAsks
