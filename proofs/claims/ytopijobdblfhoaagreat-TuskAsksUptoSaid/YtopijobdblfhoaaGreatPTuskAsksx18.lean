-- written by a program of this session (pp.py), out of the kit's print and this session's contracts
import Derived.Test.YtopijobdblfhoaaGreatPTuskAsksx0
import Derived.Test.YtopijobdblfhoaaGreatPTuskAsksx6
import Derived.Test.YtopijobdblfhoaaGreatPTuskAsksx11
import Derived.Test.YtopijobdblfhoaaGreatPTuskAsksx13
import Derived.Test.YtopijobdblfhoaaGreatPTuskAsksx17
import Derived.Test.YtopijobdblfhoaaGreatVTuskAsksPi
namespace Go.Proofs.YtopijobdblfhoaaGreat.PTuskAsks
open Go.RowKit Go.Proofs.YtopijobdblfhoaaGreatW.PrintWords Go.Proofs.YtopijobdblfhoaaGreatW.PrintLast Go.Proofs.YtopijobdblfhoaaGreatW.PrintMore
set_option linter.unusedVariables false
set_option linter.unusedSimpArgs false

mutual
def Fa.j0 : Nat → Int → Bool → Int → Int → List (S32) → Option (Int × Int)
 | 0, _, _, _, _, _ => none
 | k + 1, x1, z0, a0, n0, m0 => if z0 = true then (some (0, 1)) else ((F2.f k a0 n0 m0 (wrap64 (3 * x1))).bind fun o0 => ((G9.f a0).bind fun u0 => (if (o0.length : Int) < u0 then (some (0, 12)) else (Fa.l0 k o0 u0 ([] : List (S76)) 0 a0 n0 m0))))
def Fa.l0 : Nat → List (S32) → Int → List (S76) → Int → Int → Int → List (S32) → Option (Int × Int)
 | 0, _, _, _, _, _, _, _ => none
 | k + 1, x7, x8, x9, u0, a0, o0, n0 => if u0 < x8 then (if 0 ≤ u0 then (if u0 < (x7.length : Int) then (if x9.length < 5864062014805 then (Fa.l0 k x7 x8 (x9 ++ [(⟨(rd_T32 x7 u0).f1.f0, (⟨(rd_T32 x7 u0).f1.f4.f0, (rd_T32 x7 u0).f1.f4.f1⟩ : S28)⟩ : S76)]) (wrap64 (u0 + 1)) a0 o0 n0) else (none)) else (none)) else (none)) else ((F9.f k x9).bind fun m0 => (if m0.2.2 = 0 then ((Gl.f m0.1 m0.2.1 a0).bind fun z0 => (some (z0, 0))) else (some (0, m0.2.2))))
end
def Fa.f (k : Nat) (a0_0 : Int) (a0_1 : Int) (l0_2 : List (S32)) (a1 : Int) : Option (Int × Int) := (Fm.f a0_0).bind fun a0 => (if a1 < 1 then (Fa.j0 k a1 true a0_0 a0_1 l0_2) else (if a1 > 1048576 then (Fa.j0 k a1 true a0_0 a0_1 l0_2) else (Fa.j0 k a1 (!a0) a0_0 a0_1 l0_2)))
def Fa.T12 : Bool × List (List Nat × List Nat) := (true, [([], []), ([], []), ([], []), ([1, 2], [1, 2]), ([3], [3]), ([4], [4]), ([5], [5]), ([], []), ([], []), ([7, 8], [7, 8]), ([9], [9]), ([10], [10]), ([11], [11]), ([6, 12], [6, 12]), ([13], [13]), ([0, 14], [0, 14]), ([15, 15, 0, 1, 2, 3, 4, 5, 6, 7, 8, 9, 10, 11, 12, 13, 14, 15], [0, 15])])
def Fa.B12 : List Nat := [0, 0, 0, 6, 14, 30, 62, 0, 0, 384, 896, 1920, 3968, 8190, 16382, 32767, 65535]
theorem Fa.tab12 : rtab .any (opsOf Tryz.f29 12) = Fa.T12 := by kernel_rfl
theorem Fa.bits12 : waitsOk Fa.T12.2 Fa.B12 = true := by kernel_rfl
set_option maxHeartbeats 8000000 in
set_option maxRecDepth 100000 in
theorem Fa.calls (k : Nat) (a0_0 : Int) (a0_1 : Int) (A0_2 : Option Addr) (c0_2 : Nat) (l0_2 : List (S32)) (a1 : Int) (r1 : Int) (r2 : Int) (w : World) (hr0_2 : Kd.C k32 w A0_2 l0_2.length l0_2) (hc0_2 : l0_2.length ≤ c0_2) (h : Fa.f k a0_0 a0_1 l0_2 a1 = some (r1, r2)) :
  Calls Tryz.prog 29 #[.agg #[.int .i64 a0_0, .int .i64 a0_1, .slice A0_2 l0_2.length c0_2], .int .i64 a1] w fun e w' => e = .returned (.tuple #[.int .i64 r1, .int .i64 r2]) ∧ Below w.heap.size w w' := by
 have l7 := Tryz.underlying24
 have g7 := Tryz.underlying28
 have j7 := Tryz.underlying76
 have s4 := am_ hr0_2
 have l4 := am_ hc0_2
 clear hr0_2 hc0_2
 have HB := am_ (Below.refl w.heap.size w)
 have H : ((Fm.f a0_0).bind fun j4 => (if a1 < 1 then (Fa.j0 k a1 true a0_0 a0_1 l0_2) else (if a1 > 1048576 then (Fa.j0 k a1 true a0_0 a0_1 l0_2) else (Fa.j0 k a1 (!j4) a0_0 a0_1 l0_2)))) = some (r1, r2) := h
 clear h
 replace H := Option.bind_eq_some_iff.mp H
 obtain ⟨j4, d7, H⟩ := H
 try dsimp only at H
 have A3 := am_ d7
 clear d7
 have E6 := am_ H
 clear H
 go_enter Tryz.func29, Tryz.ntmps29
 go_upto_region 2 with (first | ((with_reducible refine gd_ 2 ?_); refine be_ 2 #[.int .i64 a0_0, .int .i64 a0_1, .slice A0_2 l0_2.length c0_2] 24 ?_; intro o0 hg w5 hbox hb; have a0 := am_ hbox; have m4 := tG HB hg; have R6 := tG HB hg; replace HB := tHb HB hb; clear hb hbox hg; obtain ⟨N6, W5, D6, k6, L6, Z5⟩ := bx3 a0) | ((with_reducible refine gate_callee (f := 54) rfl ?_); refine gl_ (some 15) Tryz.func54 #[.int .i64 a0_0] ?_; (with_reducible refine (Fm.calls a0_0 j4 _ A3.out).mono ?_); rintro e w' ⟨rfl, ⟨nd, rfl⟩⟩; refine ⟨_, rfl, ?_⟩))
 (try simp only [Act.put, List.setIfInBounds_toArray, List.set_cons_zero, List.set_cons_succ])
 go_cut [25] (fun f7 wc => ∃ (kq : Nat) (C2 : Bool), f7 = .bool C2 ∧ Asc (Fa.j0 kq a1 C2 a0_0 a0_1 l0_2 = some (r1, r2)) ∧ Asc (kq ≤ k) ∧ Asc (wc.heap[o0]? = some (.cells #[.int .i64 a0_0, .int .i64 a0_1, (.slice A0_2 l0_2.length c0_2)] 24 (0, 0))) ∧ Asc (Below w.heap.size w wc))
 case first =>
  have H := E6.out
  clear E6
  by_cases c7 : a1 < 1
  ·
   rw [if_pos c7] at H
   have S3 : decide (a1 < 1) = true := decide_eq_true c7
   clear c7
   (first | rw [S3] | (simp only [i64_w, i32_w]; rw [S3]) | skip)
   have H' := am_ H
   clear H
   go_wp2
   go_meet
   case rel => exact ⟨_, (true), fr, H', ⟨by first | omega | exact Nat.le_refl _⟩, ⟨gB a0⟩, ⟨bh HB⟩⟩
  rw [if_neg c7] at H
  have S3 : decide (a1 < 1) = false := decide_eq_false c7
  clear c7
  (first | rw [S3] | (simp only [i64_w, i32_w]; rw [S3]) | skip)
  by_cases c8 : a1 > 1048576
  ·
   rw [if_pos c8] at H
   have I6 : decide (1048576 < a1) = true := decide_eq_true c8
   clear c8
   have H' := am_ H
   clear H
   go_wp2
   go_meet
   case rel => exact ⟨_, (true), fr, H', ⟨by first | omega | exact Nat.le_refl _⟩, ⟨gB a0⟩, ⟨bh HB⟩⟩
  rw [if_neg c8] at H
  have I6 : decide (1048576 < a1) = false := decide_eq_false c8
  clear c8
  have H' := am_ H
  clear H
  go_wp2
  go_meet
  case rel => exact ⟨_, (!j4), fr, H', ⟨by first | omega | exact Nat.le_refl _⟩, ⟨gB a0⟩, ⟨bh HB⟩⟩
 case rest =>
  clear E6
  try clear N6 W5 D6 k6 L6 Z5
  obtain ⟨kq, C2, rfl, HA, W6, a0, HB⟩ := hcut
  cases kq with
  | zero => exact absurd HA.out (by simp [Fa.j0])
  | succ U5 =>
   have H := HA.out
   clear HA
   simp only [Fa.j0] at H
   by_cases c9 : C2 = true
   ·
    subst c9
    rw [if_pos rfl] at H
    simp only [Option.some.injEq, Prod.mk.injEq] at H
    obtain ⟨rfl, rfl⟩ := H
    go_wp2
    go_ret2
    exact ⟨fe, bh HB⟩
   replace c9 := Bool.eq_false_iff.mpr c9
   subst c9
   rw [if_neg (show ¬ (false = true) by decide)] at H
   replace H := Option.bind_eq_some_iff.mp H
   obtain ⟨n0, W4, H⟩ := H
   try dsimp only at H
   have X6 := am_ W4
   clear W4
   replace H := Option.bind_eq_some_iff.mp H
   obtain ⟨P0, N4, H⟩ := H
   try dsimp only at H
   have a7 := am_ N4
   clear N4
   by_cases L4 : (n0.length : Int) < P0
   ·
    rw [if_pos L4] at H
    have u4 : decide ((n0.length : Int) < P0) = true := decide_eq_true L4
    clear L4
    simp only [Option.some.injEq, Prod.mk.injEq] at H
    obtain ⟨rfl, rfl⟩ := H
    obtain ⟨_, _, _, _, _, _⟩ := bx3 a0
    go_wp2_with (first | ((with_reducible refine gate_callee (f := 36) rfl ?_); refine gl_ (some 29) Tryz.func36 #[.agg #[.int .i64 a0_0, .int .i64 a0_1, .slice A0_2 l0_2.length c0_2], .int .i64 (wrap64 (3 * a1))] ?_; (with_reducible refine (F2.calls U5 a0_0 a0_1 (fun k_ => k_ < w.heap.size) _ _ l0_2 (wrap64 (3 * a1)) n0 _ ?O0 X6.out).mono ?_); (case O0 => exact Kd.V_mk l4.out (Kd.F_below (Kd.C_F k32_heap s4.out) (bh HB))); rintro e s7 ⟨s6, rfl, R4, hb⟩; refine ⟨_, rfl, ?_⟩; have b3 := am_ (Kd.N_lower (Kd.N_mono (ok' := fun k_ => k_ ≠ o0) R4 (fun k_ hk_ => oe m4 a0 hk_)) (below_size (bh HB))); replace a0 := tBb a0 hb; replace HB := tHb HB hb; (try clear hb R4); obtain ⟨_, _, _, _, _, _⟩ := bx3 a0) | ((with_reducible refine gate_callee (f := 32) rfl ?_); refine gl_ (some 32) Tryz.func32 #[.int .i64 a0_0] ?_; (with_reducible refine (G9.calls a0_0 P0 _ a7.out).mono ?_); rintro e w' ⟨rfl, ⟨nd, rfl⟩⟩; refine ⟨_, rfl, ?_⟩; obtain ⟨i7, k7, Y5⟩ := Kd.N_slice b3.out; subst Y5))
    go_ret2
    exact ⟨fe, bh HB⟩
   rw [if_neg L4] at H
   have u4 : decide ((n0.length : Int) < P0) = false := decide_eq_false L4
   clear L4
   have H' := am_ H
   clear H
   obtain ⟨V4, M4, Q4, D5, A5, P4⟩ := bx3 a0
   go_wp2_with (first | ((with_reducible refine gate_callee (f := 36) rfl ?_); refine gl_ (some 29) Tryz.func36 #[.agg #[.int .i64 a0_0, .int .i64 a0_1, .slice A0_2 l0_2.length c0_2], .int .i64 (wrap64 (3 * a1))] ?_; (with_reducible refine (F2.calls U5 a0_0 a0_1 (fun k_ => k_ < w.heap.size) _ _ l0_2 (wrap64 (3 * a1)) n0 _ ?O0 X6.out).mono ?_); (case O0 => exact Kd.V_mk l4.out (Kd.F_below (Kd.C_F k32_heap s4.out) (bh HB))); rintro e t7 ⟨s6, rfl, R4, hb⟩; refine ⟨_, rfl, ?_⟩; have b3 := am_ (Kd.N_lower (Kd.N_mono (ok' := fun k_ => k_ ≠ o0) R4 (fun k_ hk_ => oe m4 a0 hk_)) (below_size (bh HB))); replace a0 := tBb a0 hb; replace HB := tHb HB hb; (try clear hb R4); obtain ⟨i5, b5, Y4, p5, j5, s5⟩ := bx3 a0) | ((with_reducible refine gate_callee (f := 32) rfl ?_); refine gl_ (some 32) Tryz.func32 #[.int .i64 a0_0] ?_; (with_reducible refine (G9.calls a0_0 P0 _ a7.out).mono ?_); rintro e w' ⟨rfl, ⟨nd, rfl⟩⟩; refine ⟨_, rfl, ?_⟩; obtain ⟨O6, Q3, J6⟩ := Kd.N_slice b3.out; subst J6))
   go_loopg [9, 10] U5 (fun kq v9 o7 w' => ∃ (P1 : List (S76)) (m0 : Int), o7 = .int .i64 m0 ∧ Asc (Fa.l0 kq n0 P0 P1 m0 a0_0 a0_1 l0_2 = some (r1, r2)) ∧ Asc (kq ≤ U5) ∧ Asc (Kd.N k32 32 w' w.heap.size (fun k_ => some k_ ≠ (v9 : Value).ownBlock ∧ k_ ≠ o0) (.slice O6 n0.length Q3) n0) ∧ Asc (Kd.R k76 76 w' w.heap.size (fun _ => True) v9 P1) ∧ Asc (w'.heap[o0]? = some (.cells #[.int .i64 a0_0, .int .i64 a0_1, (.slice A0_2 l0_2.length c0_2)] 24 (0, 0))) ∧ Asc (Below w.heap.size w w'))
   case atStart => exact ⟨(([] : List (S76))), (0), fr, H', ⟨Nat.le_refl _⟩, ⟨gN b3⟩, ⟨kn⟩, ⟨gB a0⟩, ⟨bh HB⟩⟩
   case round =>
    clear H'
    try clear c9 u4 V4 M4 Q4 i5 b5 Y4 D5 A5 P4 p5 j5 s5
    obtain ⟨P1, m0, rfl, HA, Y6, HO_7, HO_9, a0, HB⟩ := hrel
    cases gk with
    | zero => exact absurd HA.out (by simp [Fa.l0])
    | succ k2 =>
     have H := HA.out
     clear HA
     simp only [Fa.l0] at H
     by_cases K4 : m0 < P0
     ·
      rw [if_pos K4] at H
      have Z4 : decide (m0 < P0) = true := decide_eq_true K4
      clear K4
      revert H
      refine gi (fun P6 H => ?_)
      revert H
      refine gi (fun Z6 H => ?_)
      revert H
      refine gi' (fun U6 H => ?_)
      have l5 := am_ U6
      clear U6
      obtain ⟨m5, Q1⟩ : ∃ y_ : List (S76), y_ = (P1 ++ [(⟨(rd_T32 n0 m0).f1.f0, (⟨(rd_T32 n0 m0).f1.f4.f0, (rd_T32 n0 m0).f1.f4.f1⟩ : S28)⟩ : S76)]) := ⟨_, rfl⟩
      replace H : (Fa.l0 k2 n0 P0 m5 (wrap64 (m0 + 1)) a0_0 a0_1 l0_2) = some (r1, r2) := by first | (rw [Q1]; with_reducible exact H) | (have H := (Option.bind_some _ _).symm.trans H; first | (rw [Q1]; with_reducible exact H) | with_reducible exact H) | with_reducible exact H | (rw [Q1]; exact H) | exact H
      have a5 := am_ Q1
      clear Q1
      have H' := am_ H
      clear H
      try go_wp2
      replace HO_7 := am_ (Kd.N_drew HO_7.out)
      replace HO_9 := am_ (Kd.R_drew HO_9.out)
      replace a0 := am_ (blk_drew a0.out)
      replace HB := am_ (below_drew1 HB.out)
      have Z3 : 0 ≤ (m0 : Int) := dt
      have Y3 : m0 < (n0.length : Int) := dt
      obtain ⟨U1, r6, i6, z6, A6, X5, Z2, i2, V2, A0, z0, Q2, L2, l3, i3, m3, I3⟩ := at_T32 (Kd.N_reads' HO_7.out).2.2 m0 Z3 Y3
      cases X5
      obtain ⟨S6, J4, E4, Y1⟩ := Kd.N_get HO_7.out z32 m0 Z3 (by first | exact Y3 | exact dt | (have e_ := (Kd.N_reads' HO_7.out).1; omega))
      obtain ⟨O5, J5, R5, N5, rfl, Z0, L1, O1, C1⟩ := k32_openF E4
      have L0 := Y1 3 _ rfl
      rw [add_field _ _ 3 (by omega)] at L0
      replace L0 := Option.some.inj (L0.symm.trans A0)
      injection L0 with hva_ hvn_ hvc_
      rw [hva_] at L1
      rw [hvc_] at Z0
      have i1 := am_ (show Kd.V k107 107 _ w.heap.size _ _ ((rd_T32 n0 m0).f1.f2) from Kd.V_mk Z0 L1)
      clear hva_ hvn_ hvc_ L1 Z0
      have E0 := Y1 4 _ rfl
      rw [add_field _ _ 4 (by omega)] at E0
      replace E0 := Option.some.inj (E0.symm.trans z0)
      injection E0 with hva_ hvn_ hvc_
      rw [hva_] at C1
      rw [hvc_] at O1
      have W0 := am_ (show Kd.V Kd.string 9 _ w.heap.size _ _ ((rd_T32 n0 m0).f1.f3) from Kd.V_mk O1 C1)
      clear hva_ hvn_ hvc_ C1 O1 Y1 J4
      have i4 := am_ i3
      have P5 := am_ l3
      clear i3 l3
      have W3 := am_ I3
      have Q5 := am_ m3
      clear I3 m3
      replace Z3 := eq_true Z3
      replace Y3 := eq_true Y3
      have a4 : 0 ≤ (m0 : Int) := dt
      have V3 : m0 < (n0.length : Int) := dt
      obtain ⟨E5, b6, l6, j6, M6, c6, D3, Z1, a3, M0, N0, J2, C3, k3, D2, u3, Y2⟩ := at_T32 (Kd.N_reads' HO_7.out).2.2 m0 a4 V3
      obtain rfl : U1 = E5 := (by injection c6)
      obtain ⟨V6, I4, C4, V1⟩ := Kd.N_get HO_7.out z32 m0 a4 (by first | exact V3 | exact dt | (have e_ := (Kd.N_reads' HO_7.out).1; omega))
      obtain ⟨S5, K5, L5, V5, rfl, Y0, N1, V0, X0⟩ := k32_openF C4
      have I0 := V1 3 _ rfl
      rw [add_field _ _ 3 (by omega)] at I0
      replace I0 := Option.some.inj (I0.symm.trans M0)
      injection I0 with hva_ hvn_ hvc_
      rw [hva_] at N1
      rw [hvc_] at Y0
      have D1 := am_ (show Kd.V k107 107 _ w.heap.size _ _ ((rd_T32 n0 m0).f1.f2) from Kd.V_mk Y0 N1)
      clear hva_ hvn_ hvc_ N1 Y0
      have C0 := V1 4 _ rfl
      rw [add_field _ _ 4 (by omega)] at C0
      replace C0 := Option.some.inj (C0.symm.trans N0)
      injection C0 with hva_ hvn_ hvc_
      rw [hva_] at X0
      rw [hvc_] at V0
      have U0 := am_ (show Kd.V Kd.string 9 _ w.heap.size _ _ ((rd_T32 n0 m0).f1.f3) from Kd.V_mk V0 X0)
      clear hva_ hvn_ hvc_ X0 V0 V1 I4
      have k4 := am_ D2
      have M5 := am_ k3
      clear D2 k3
      have X3 := am_ Y2
      have I5 := am_ u3
      clear Y2 u3
      replace a4 := eq_true a4
      replace V3 := eq_true V3
      have ea_ := Option.some.inj (A0.symm.trans M0)
      injection ea_ with ea_ en_ ec_
      subst ea_
      subst ec_
      clear en_
      have ea_ := Option.some.inj (z0.symm.trans N0)
      injection ea_ with ea_ en_ ec_
      subst ea_
      subst ec_
      clear en_
      refine st_ 17 [14, 15] (c1_ Z2 (c1_ i2 (c1_ V2 (c1_ A0 (c1_ z0 (c1_ Q2 (c1_ L2 (c1_ D3 (c1_ Z1 (c1_ a3 (c1_ M0 (c1_ N0 (c1_ J2 (c1_ C3 ct)))))))))))))) (fun hHeld => ?_); refine with_tabW Fa.tab12 Fa.bits12 (fun HT_ HW_ => ?_)
      generalize wr.drew = w7 at HO_7 HO_9 a0 HB i1 W0 D1 U0 i4 W3 k4 X3 Z2 i2 V2 A0 z0 Q2 L2 D3 Z1 a3 M0 N0 J2 C3 hHeld ⊢
      refine pu_ 0 (some 42) 1 HT_ (h := ?_)
      refine pu_ 1 (some 43) 3 HT_ (h := ?_)
      refine pu_ 2 (some 44) 7 HT_ (h := ?_)
      refine pu_ 3 (some 45) 15 HT_ (h := ?_)
      refine pu_ 4 (some 46) 31 HT_ (h := ?_)
      refine pu_ 5 (some 47) 63 HT_ (h := ?_)
      refine pu_ 7 (some 49) 191 HT_ (h := ?_)
      refine pu_ 8 (some 50) 447 HT_ (h := ?_)
      refine pu_ 9 (some 51) 959 HT_ (h := ?_)
      refine pu_ 10 (some 52) 1983 HT_ (h := ?_)
      refine pu_ 11 (some 53) 4031 HT_ (h := ?_)
      refine tk_ 6 (some 48) 4095 HT_ HW_ hHeld (h := ?_)
      refine tk_ 12 (some 54) 8191 HT_ HW_ hHeld (h := ?_)
      refine pu_ 13 (some 55) 16383 HT_ (h := ?_)
      refine last_ (i := 14) (N := some 56) #[true, true, true, true, true, true, true, true, true, true, true, true, true, true, true, false, false] rfl rfl (one_of HT_.out (by kernel_rfl)) (by decide) (fun K hK => ?_)
      refine value_ (w1 := ?_) (v := ?_) (by rfl) rfl ?_ ?_
      rotate_left 2
      ·
       go_simp
       constructor
       ·
        rfl
       rfl
      refine hK.out _ _ ?_
      clear hK K
      refine norm_ (a' := ?_) ?_ ?_
      rotate_left
      ·
       show Act.put _ (some 56) _ = _
       simp only [Act.put, List.setIfInBounds_toArray, List.set_cons_zero, List.set_cons_succ, i64_w, i32_w]
       rfl
      refine last_ (i := 15) (N := some 57) #[true, true, true, true, true, true, true, true, true, true, true, true, true, true, true, true, false] rfl rfl (one_of HT_.out (by kernel_rfl)) (by decide) (fun K hK => ?_)
      refine Kd.R_append_step k76 (w0 := w) w.heap.size (by rfl) (.tmp 42) (.tmp 56) 74 76 (.agg #[(.int .i64 0), (.int .i64 0), (.int .i64 0)]) 24 rfl Tryz.underlying74 info76 rfl (by decide) (by omega) u9 P1 (⟨(rd_T32 n0 m0).f1.f0, (⟨(rd_T32 n0 m0).f1.f4.f0, (rd_T32 n0 m0).f1.f4.f1⟩ : S28)⟩ : S76) [.int .i64 ((rd_T32 n0 m0).f1.f0), .int .i64 ((rd_T32 n0 m0).f1.f4.f0), .int .i64 ((rd_T32 n0 m0).f1.f4.f1)] (fun _ => True) (fun _ => False) rfl rfl ?aP (fun _ hk => hk.elim) ?aF ?aO ?aB ?aS ?aL ?_
      (case aP => exact k76_mkM _ _ _ (⟨(rd_T32 n0 m0).f1.f0, (⟨(rd_T32 n0 m0).f1.f4.f0, (rd_T32 n0 m0).f1.f4.f1⟩ : S28)⟩ : S76))
      (case aB => exact (bh HB))
      (case aF => exact (fun _ _ => trivial))
      (case aO => exact (hR HO_9))
      (case aS => exact (below_size (bh HB)))
      (case aL => have := l5.out; omega)
      intro m7 A7 ho hb hg hat
      rw [← a5.out] at ho
      replace HO_7 := am_ (Kd.N_afterv (ok := (fun k_ => k_ ≠ o0)) (gN HO_7) hg hat)
      replace a0 := tBg a0 hg (Kd.R_ne HO_9.out a0.out (by decide))
      replace i1 := am_ (Kd.V_afterv (ok := (fun k_ => some k_ ≠ (.slice (some U1) n0.length Q3 : Value).ownBlock ∧ k_ ≠ o0)) (gV i1) hg hat)
      replace W0 := am_ (Kd.V_afterv (ok := (fun k_ => some k_ ≠ (.slice (some U1) n0.length Q3 : Value).ownBlock ∧ k_ ≠ o0)) (gV W0) hg hat)
      replace D1 := am_ (Kd.V_afterv (ok := (fun k_ => some k_ ≠ (.slice (some U1) n0.length Q3 : Value).ownBlock ∧ k_ ≠ o0)) (gV D1) hg hat)
      replace U0 := am_ (Kd.V_afterv (ok := (fun k_ => some k_ ≠ (.slice (some U1) n0.length Q3 : Value).ownBlock ∧ k_ ≠ o0)) (gV U0) hg hat)
      replace HB := am_ hb
      have O4 := am_ (ho)
      clear HO_9 ho hb hg hat
      refine hK.out _ _ ?_
      clear hK K
      refine norm_ (a' := ?_) ?_ ?_
      rotate_left
      ·
       show Act.put _ (some 57) _ = _
       simp only [Act.put, List.setIfInBounds_toArray, List.set_cons_zero, List.set_cons_succ, i64_w, i32_w]
       rfl
      refine pu_ 16 (some 9) 131071 HT_ (h := ?_)
      refine done_ (done_of HT_.out (by kernel_rfl)) ?_
      try go_wp2
      go_roundg k2
      case measure => have := W6.out; have := Y6.out; omega
      case rel => exact ⟨(m5), (wrap64 (m0 + 1)), fr, H', ⟨by have := W6.out; have := Y6.out; omega⟩, ⟨gN HO_7⟩, ⟨hR O4⟩, ⟨gB a0⟩, ⟨bh HB⟩⟩
     rw [if_neg K4] at H
     have Z4 : decide (m0 < P0) = false := decide_eq_false K4
     clear K4
     replace H := Option.bind_eq_some_iff.mp H
     obtain ⟨⟨L3, N3, X1⟩, U4, H⟩ := H
     try dsimp only at H
     have Q6 := am_ U4
     clear U4
     by_cases D4 : X1 = 0
     ·
      rw [if_pos D4] at H
      have k5 : (X1 == 0) = true := beq_iff_eq.mpr D4
      have c5 : (X1 != 0) = false := bne_eq_false_iff_eq.mpr D4
      clear D4
      replace H := Option.bind_eq_some_iff.mp H
      obtain ⟨a6, S4, H⟩ := H
      try dsimp only at H
      have p7 := am_ S4
      clear S4
      simp only [Option.some.injEq, Prod.mk.injEq] at H
      obtain ⟨rfl, rfl⟩ := H
      obtain ⟨o6, q6, p6⟩ := Kd.R_slice HO_9.out
      subst p6
      go_wp2_with (first | ((with_reducible refine gate_callee (f := 55) rfl ?_); refine gl_ (some 60) Tryz.func55 #[.slice o6 P1.length q6] ?_; (with_reducible refine (F9.calls k2 _ _ P1 L3 N3 X1 _ ?O0 ?U3 Q6.out).mono ?_); (case O0 => repeat (first | exact (Kd.R_reads' HO_9.out).2.2 | (with_reducible refine Kd.C_alloc ?_ _) | (with_reducible refine Kd.C_drewN ?_ _) | (with_reducible refine Kd.C_drew ?_))); (case U3 => exact (Kd.R_reads' HO_9.out).2.1); rintro e D7 ⟨rfl, hb⟩; refine ⟨_, rfl, ?_⟩; replace HO_7 := tNb HO_7 hb; replace HO_9 := tRb HO_9 hb; replace a0 := tBb a0 hb; replace HB := tHb HB hb; (try clear hb)) | ((with_reducible refine gd_ 11 ?_); refine be_ 11 #[.int .i64 0, .int .i64 0] 28 ?_; intro N2 hg z7 hbox hb; replace HO_7 := tNe HO_7 hg hb; replace HO_9 := tRb HO_9 hb; have Q0 := am_ hbox; have X4 := tG HB hg; have C5 := tG HB hg; replace HB := tHb HB hb; obtain ⟨J3, u0⟩ := tN a0 hg; replace a0 := tBb a0 hb; clear hb hbox hg; obtain ⟨_, _⟩ := n2 u0; obtain ⟨_, _, _, _⟩ := bx2 Q0; obtain ⟨_, _, _, _, _, _⟩ := bx3 a0) | ((with_reducible refine gate_callee (f := 56) rfl ?_); refine gl_ (some 69) Tryz.func56 #[.agg #[.int .i64 L3, .int .i64 N3], .int .i64 a0_0] ?_; (with_reducible refine (Gl.calls L3 N3 a0_0 a6 _ p7.out).mono ?_); rintro e J7 ⟨rfl, hb⟩; refine ⟨_, rfl, ?_⟩; replace HO_7 := tNb HO_7 hb; replace HO_9 := am_ (Kd.R_below (by (with_reducible repeat (first | apply Kd.R_alloc | apply Kd.R_drewN | apply Kd.R_drew)); exact (Kd.R_mono (Kd.R_far (p := ⟨N2, 1, none⟩) (Kd.R_far (p := ⟨N2, 0, none⟩) (Kd.R_types HO_9.out Q0.out (by decide)) (fun _ hk => hk.2) (.int .i64 L3)) (fun _ hk => hk.2) (.int .i64 N3)) (fun _ h_ => h_.1))) hb); replace a0 := tBb a0 hb; replace Q0 := am_ (blk_below (g := N2) (o := .cells #[.int .i64 L3, .int .i64 N3] 28 (0, 0)) (gP Q0 rfl) hb); replace HB := tHb HB hb; (try clear hb)))
      go_ret2
      exact ⟨fe, bh HB⟩
     rw [if_neg D4] at H
     have k5 : (X1 == 0) = false := beq_eq_false_iff_ne.mpr D4
     have c5 : (X1 != 0) = true := bne_iff_ne.mpr D4
     simp only [Option.some.injEq, Prod.mk.injEq] at H
     obtain ⟨rfl, rfl⟩ := H
     obtain ⟨K6, m6, C6⟩ := Kd.R_slice HO_9.out
     subst C6
     go_wp2_with (first | ((with_reducible refine gate_callee (f := 55) rfl ?_); refine gl_ (some 60) Tryz.func55 #[.slice K6 P1.length m6] ?_; (with_reducible refine (F9.calls k2 _ _ P1 L3 N3 X1 _ ?O0 ?U3 Q6.out).mono ?_); (case O0 => repeat (first | exact (Kd.R_reads' HO_9.out).2.2 | (with_reducible refine Kd.C_alloc ?_ _) | (with_reducible refine Kd.C_drewN ?_ _) | (with_reducible refine Kd.C_drew ?_))); (case U3 => exact (Kd.R_reads' HO_9.out).2.1); rintro e I7 ⟨rfl, hb⟩; refine ⟨_, rfl, ?_⟩; replace HO_7 := tNb HO_7 hb; replace HO_9 := tRb HO_9 hb; replace a0 := tBb a0 hb; replace HB := tHb HB hb; (try clear hb)) | ((with_reducible refine gd_ 11 ?_); refine be_ 11 #[.int .i64 0, .int .i64 0] 28 ?_; intro N2 hg C7 hbox hb; replace HO_7 := tNe HO_7 hg hb; replace HO_9 := tRb HO_9 hb; have Q0 := am_ hbox; have X4 := tG HB hg; have C5 := tG HB hg; replace HB := tHb HB hb; obtain ⟨J3, u0⟩ := tN a0 hg; replace a0 := tBb a0 hb; clear hb hbox hg; obtain ⟨_, _⟩ := n2 u0; obtain ⟨_, _, _, _⟩ := bx2 Q0))
     go_ret2
     exact ⟨fe, bh HB⟩

def Gc.f (k : Nat) (a0_0 : Int) (a0_1 : Int) (l0_2 : List (S32)) (a1 : Int) : Option (ByteArray × Int × Int × (List (S107)) × List ByteArray × Int × Int × Int) := (Fa.f k a0_0 a0_1 l0_2 a1).bind fun m0 => (if m0.2 = 0 then ((Fb.f k a0_0 a0_1 l0_2 m0.1 (wrap64 ((wrap64 (3 * a1)) - 2))).bind fun a0 => (if a0.2.2.2.2.2.2.2 = true then (some (a0.1, a0.2.1, a0.2.2.1, a0.2.2.2.1, a0.2.2.2.2.1, a0.2.2.2.2.2.1, a0.2.2.2.2.2.2.1, 0)) else (some ((⟨#[]⟩ : ByteArray), 0, 0, ([] : List (S107)), ([] : List ByteArray), 0, 0, 7)))) else (some ((⟨#[]⟩ : ByteArray), 0, 0, ([] : List (S107)), ([] : List ByteArray), 0, 0, m0.2)))
set_option maxHeartbeats 8000000 in
set_option maxRecDepth 100000 in
theorem Gc.calls (k : Nat) (a0_0 : Int) (a0_1 : Int) (z0 : Nat → Prop) (A0_2 : Option Addr) (c0_2 : Nat) (l0_2 : List (S32)) (a1 : Int) (r1 : ByteArray) (r2 : Int) (r3 : Int) (r4 : List (S107)) (r5 : List ByteArray) (r6 : Int) (r7 : Int) (r8 : Int) (w : World) (i2 : Kd.V k32 32 w w.heap.size (fun k_ => z0 k_) (.slice A0_2 l0_2.length c0_2) l0_2) (h : Gc.f k a0_0 a0_1 l0_2 a1 = some (r1, r2, r3, r4, r5, r6, r7, r8)) :
  Calls Tryz.prog 10 #[.agg #[.int .i64 a0_0, .int .i64 a0_1, .slice A0_2 l0_2.length c0_2], .int .i64 a1] w fun e w' => ∃ D3 C3 : Value, e = .returned (.tuple #[.agg #[.string r1, .int .i64 r2, .int .i64 r3, D3, C3, .int .i64 r6, .int .i64 r7], .int .i64 r8]) ∧ Kd.V k107 107 w' w.heap.size (fun k_ => (z0 k_ ∨ w.heap.size ≤ k_)) D3 r4 ∧ Kd.V Kd.string 9 w' w.heap.size (fun k_ => (z0 k_ ∨ w.heap.size ≤ k_)) C3 r5 ∧ Below w.heap.size w w' := by
 have W3 := Tryz.underlying24
 have N3 := Tryz.underlying32
 have m0 := am_ (show Kd.V k32 32 w w.heap.size (fun k_ => (z0 k_ ∨ w.heap.size ≤ k_)) (.slice A0_2 l0_2.length c0_2) l0_2 from Kd.V_mono i2 (fun k_ hk => .inl hk))
 have HB := am_ (Below.refl w.heap.size w)
 have H : ((Fa.f k a0_0 a0_1 l0_2 a1).bind fun X0 => (if X0.2 = 0 then ((Fb.f k a0_0 a0_1 l0_2 X0.1 (wrap64 ((wrap64 (3 * a1)) - 2))).bind fun I0 => (if I0.2.2.2.2.2.2.2 = true then (some (I0.1, I0.2.1, I0.2.2.1, I0.2.2.2.1, I0.2.2.2.2.1, I0.2.2.2.2.2.1, I0.2.2.2.2.2.2.1, 0)) else (some ((⟨#[]⟩ : ByteArray), 0, 0, ([] : List (S107)), ([] : List ByteArray), 0, 0, 7)))) else (some ((⟨#[]⟩ : ByteArray), 0, 0, ([] : List (S107)), ([] : List ByteArray), 0, 0, X0.2)))) = some (r1, r2, r3, r4, r5, r6, r7, r8) := h
 clear h
 replace H := Option.bind_eq_some_iff.mp H
 obtain ⟨⟨U0, Q0⟩, J3, H⟩ := H
 try dsimp only at H
 have A3 := am_ J3
 clear J3
 by_cases c4 : Q0 = 0
 ·
  rw [if_pos c4] at H
  have a3 : (Q0 == 0) = true := beq_iff_eq.mpr c4
  have Y2 : (Q0 != 0) = false := bne_eq_false_iff_eq.mpr c4
  clear c4
  replace H := Option.bind_eq_some_iff.mp H
  obtain ⟨⟨L1, U1, V1, Q1, P1, N1, O1, N2⟩, k3, H⟩ := H
  try dsimp only at H
  have A5 := am_ k3
  clear k3
  by_cases c6 : N2 = true
  ·
   subst c6
   rw [if_pos rfl] at H
   simp only [Option.some.injEq, Prod.mk.injEq] at H
   obtain ⟨rfl, rfl, rfl, rfl, rfl, rfl, rfl, rfl⟩ := H
   go_enter Tryz.func10, Tryz.ntmps10
   go_wp2_with (first | ((with_reducible refine gd_ 2 ?_); refine be_ 2 #[.int .i64 a0_0, .int .i64 a0_1, .slice A0_2 l0_2.length c0_2] 24 ?_; intro M0 hg w7 hbox hb; replace m0 := tVe m0 hg hb; have a0 := am_ hbox; have C1 := tG HB hg; have Z0 := tG HB hg; replace HB := tHb HB hb; clear hb hbox hg) | ((with_reducible refine gd_ 4 ?_); refine be_ 4 #[.string (⟨#[]⟩ : ByteArray), .int .i64 0, .int .i64 0, .slice none 0 0, .slice none 0 0, .int .i64 0, .int .i64 0] 32 ?_; intro u0 hg w8 hbox hb; replace m0 := tVe m0 hg hb; have n0 := am_ hbox; have D1 := tG HB hg; have i1 := tG HB hg; replace HB := tHb HB hb; obtain ⟨o0, O0⟩ := tN a0 hg; replace a0 := tBb a0 hb; clear hb hbox hg; obtain ⟨_, _⟩ := n2 o0; obtain ⟨_, _, _, _, _, _⟩ := bx3 a0) | ((with_reducible refine gate_callee (f := 29) rfl ?_); refine gl_ (some 13) Tryz.func29 #[.agg #[.int .i64 a0_0, .int .i64 a0_1, .slice A0_2 l0_2.length c0_2], .int .i64 a1] ?_; (with_reducible refine (Fa.calls k a0_0 a0_1 _ _ l0_2 a1 U0 Q0 _ ?A0 ?P0 A3.out).mono ?_); (case A0 => repeat (first | exact (Kd.V_reads' m0.out).2.2 | (with_reducible refine Kd.C_alloc ?_ _) | (with_reducible refine Kd.C_drewN ?_ _) | (with_reducible refine Kd.C_drew ?_))); (case P0 => exact (Kd.V_reads' m0.out).2.1); rintro e k4 ⟨rfl, hb⟩; refine ⟨_, rfl, ?_⟩; replace m0 := tVb m0 hb; replace a0 := tBb a0 hb; replace n0 := tBb n0 hb; replace HB := tHb HB hb; (try clear hb); obtain ⟨_, _, _, _, _, _⟩ := bx3 a0) | ((with_reducible refine gate_callee (f := 30) rfl ?_); refine gl_ (some 26) Tryz.func30 #[.agg #[.int .i64 a0_0, .int .i64 a0_1, .slice A0_2 l0_2.length c0_2], .int .i64 U0, .int .i64 (wrap64 ((wrap64 (3 * a1)) - 2))] ?_; (with_reducible refine (Fb.calls k a0_0 a0_1 (fun k_ => (((z0 k_ ∨ w.heap.size ≤ k_) ∧ k_ ≠ M0) ∧ k_ ≠ u0)) _ _ l0_2 U0 (wrap64 ((wrap64 (3 * a1)) - 2)) L1 U1 V1 Q1 P1 N1 O1 true _ ?A0 A5.out).mono ?_); (case A0 => exact m0.out); rintro e Z3 ⟨L2, Z2, rfl, Y1, Z1, hb⟩; refine ⟨_, rfl, ?_⟩; replace m0 := tVb m0 hb; have L0 := lo (fun k_ => (z0 k_ ∨ w.heap.size ≤ k_) ∧ k_ ≠ M0 ∧ k_ ≠ u0) Y1 (fun k_ hk_ => ⟨Or.elim hk_ (fun hs_ => hs_.1.1) (fun hn_ => (.inr (Nat.le_trans (below_size (bh HB)) hn_))), Or.elim hk_ (fun hs_ => hs_.1.2) (fun hn_ => (gFr a0 k_ hn_)), Or.elim hk_ (fun hs_ => hs_.2) (fun hn_ => (gFr n0 k_ hn_))⟩) HB; have N0 := lo (fun k_ => (z0 k_ ∨ w.heap.size ≤ k_) ∧ k_ ≠ M0 ∧ k_ ≠ u0) Z1 (fun k_ hk_ => ⟨Or.elim hk_ (fun hs_ => hs_.1.1) (fun hn_ => (.inr (Nat.le_trans (below_size (bh HB)) hn_))), Or.elim hk_ (fun hs_ => hs_.1.2) (fun hn_ => (gFr a0 k_ hn_)), Or.elim hk_ (fun hs_ => hs_.2) (fun hn_ => (gFr n0 k_ hn_))⟩) HB; replace a0 := tBb a0 hb; replace n0 := tBb n0 hb; replace HB := tHb HB hb; (try clear hb Y1 Z1)) | ((with_reducible refine gd_ 8 ?_); refine be_ 8 #[.string (⟨#[]⟩ : ByteArray), .int .i64 0, .int .i64 0, .slice none 0 0, .slice none 0 0, .int .i64 0, .int .i64 0] 32 ?_; intro C2 hg X3 hbox hb; replace m0 := tVe m0 hg hb; replace L0 := tVe L0 hg hb; replace N0 := tVe N0 hg hb; have Y0 := am_ hbox; have D2 := tG HB hg; have X1 := tG HB hg; replace HB := tHb HB hb; obtain ⟨W0, C0⟩ := tN a0 hg; replace a0 := tBb a0 hb; obtain ⟨V0, E0⟩ := tN n0 hg; replace n0 := tBb n0 hb; clear hb hbox hg; obtain ⟨_, _⟩ := n2 C0; obtain ⟨_, _⟩ := n2 E0; obtain ⟨l3, i3, L3, _, _, _, _, u3, m3, I3, _, _, _, _⟩ := bx7 Y0; obtain ⟨Q2, V2, rfl⟩ := Kd.V_slice L0.out; obtain ⟨J2, b3, rfl⟩ := Kd.V_slice N0.out; obtain ⟨_, _, _, _, _, _, _, _, _, _, _, _, _, _⟩ := bx7 n0))
   refine bodyPost_ret (results_ct rfl _ _ u0 32 #[.string L1, .int .i64 U1, .int .i64 V1, .slice Q2 Q1.length V2, .slice J2 P1.length b3, .int .i64 N1, .int .i64 O1] (0, 0) _ rfl (gP n0 rfl) Tryz.underlying32 rfl (by kernel_rfl)) rfl ?_
   exact ⟨_, _, fe, gV L0, gV N0, bh HB⟩
  replace c6 := Bool.eq_false_iff.mpr c6
  subst c6
  rw [if_neg (show ¬ (false = true) by decide)] at H
  simp only [Option.some.injEq, Prod.mk.injEq] at H
  obtain ⟨rfl, rfl, rfl, rfl, rfl, rfl, rfl, rfl⟩ := H
  go_enter Tryz.func10, Tryz.ntmps10
  go_wp2_with (first | ((with_reducible refine gd_ 2 ?_); refine be_ 2 #[.int .i64 a0_0, .int .i64 a0_1, .slice A0_2 l0_2.length c0_2] 24 ?_; intro M0 hg u4 hbox hb; replace m0 := tVe m0 hg hb; have a0 := am_ hbox; have C1 := tG HB hg; have Z0 := tG HB hg; replace HB := tHb HB hb; clear hb hbox hg) | ((with_reducible refine gd_ 4 ?_); refine be_ 4 #[.string (⟨#[]⟩ : ByteArray), .int .i64 0, .int .i64 0, .slice none 0 0, .slice none 0 0, .int .i64 0, .int .i64 0] 32 ?_; intro u0 hg j4 hbox hb; replace m0 := tVe m0 hg hb; have n0 := am_ hbox; have D1 := tG HB hg; have i1 := tG HB hg; replace HB := tHb HB hb; obtain ⟨o0, O0⟩ := tN a0 hg; replace a0 := tBb a0 hb; clear hb hbox hg; obtain ⟨_, _⟩ := n2 o0; obtain ⟨_, _, _, _, _, _⟩ := bx3 a0) | ((with_reducible refine gate_callee (f := 29) rfl ?_); refine gl_ (some 13) Tryz.func29 #[.agg #[.int .i64 a0_0, .int .i64 a0_1, .slice A0_2 l0_2.length c0_2], .int .i64 a1] ?_; (with_reducible refine (Fa.calls k a0_0 a0_1 _ _ l0_2 a1 U0 Q0 _ ?A0 ?P0 A3.out).mono ?_); (case A0 => repeat (first | exact (Kd.V_reads' m0.out).2.2 | (with_reducible refine Kd.C_alloc ?_ _) | (with_reducible refine Kd.C_drewN ?_ _) | (with_reducible refine Kd.C_drew ?_))); (case P0 => exact (Kd.V_reads' m0.out).2.1); rintro e l4 ⟨rfl, hb⟩; refine ⟨_, rfl, ?_⟩; replace m0 := tVb m0 hb; replace a0 := tBb a0 hb; replace n0 := tBb n0 hb; replace HB := tHb HB hb; (try clear hb); obtain ⟨_, _, _, _, _, _⟩ := bx3 a0) | ((with_reducible refine gate_callee (f := 30) rfl ?_); refine gl_ (some 26) Tryz.func30 #[.agg #[.int .i64 a0_0, .int .i64 a0_1, .slice A0_2 l0_2.length c0_2], .int .i64 U0, .int .i64 (wrap64 ((wrap64 (3 * a1)) - 2))] ?_; (with_reducible refine (Fb.calls k a0_0 a0_1 (fun k_ => (((z0 k_ ∨ w.heap.size ≤ k_) ∧ k_ ≠ M0) ∧ k_ ≠ u0)) _ _ l0_2 U0 (wrap64 ((wrap64 (3 * a1)) - 2)) L1 U1 V1 Q1 P1 N1 O1 false _ ?A0 A5.out).mono ?_); (case A0 => exact m0.out); rintro e m4 ⟨L2, Z2, rfl, Y1, Z1, hb⟩; refine ⟨_, rfl, ?_⟩; replace m0 := tVb m0 hb; have L0 := lo (fun k_ => (z0 k_ ∨ w.heap.size ≤ k_) ∧ k_ ≠ M0 ∧ k_ ≠ u0) Y1 (fun k_ hk_ => ⟨Or.elim hk_ (fun hs_ => hs_.1.1) (fun hn_ => (.inr (Nat.le_trans (below_size (bh HB)) hn_))), Or.elim hk_ (fun hs_ => hs_.1.2) (fun hn_ => (gFr a0 k_ hn_)), Or.elim hk_ (fun hs_ => hs_.2) (fun hn_ => (gFr n0 k_ hn_))⟩) HB; have N0 := lo (fun k_ => (z0 k_ ∨ w.heap.size ≤ k_) ∧ k_ ≠ M0 ∧ k_ ≠ u0) Z1 (fun k_ hk_ => ⟨Or.elim hk_ (fun hs_ => hs_.1.1) (fun hn_ => (.inr (Nat.le_trans (below_size (bh HB)) hn_))), Or.elim hk_ (fun hs_ => hs_.1.2) (fun hn_ => (gFr a0 k_ hn_)), Or.elim hk_ (fun hs_ => hs_.2) (fun hn_ => (gFr n0 k_ hn_))⟩) HB; replace a0 := tBb a0 hb; replace n0 := tBb n0 hb; replace HB := tHb HB hb; (try clear hb Y1 Z1)) | ((with_reducible refine gd_ 8 ?_); refine be_ 8 #[.string (⟨#[]⟩ : ByteArray), .int .i64 0, .int .i64 0, .slice none 0 0, .slice none 0 0, .int .i64 0, .int .i64 0] 32 ?_; intro C2 hg s4 hbox hb; replace m0 := tVe m0 hg hb; replace L0 := tVe L0 hg hb; replace N0 := tVe N0 hg hb; have Y0 := am_ hbox; have D2 := tG HB hg; have X1 := tG HB hg; replace HB := tHb HB hb; obtain ⟨W0, C0⟩ := tN a0 hg; replace a0 := tBb a0 hb; obtain ⟨V0, E0⟩ := tN n0 hg; replace n0 := tBb n0 hb; clear hb hbox hg; obtain ⟨_, _⟩ := n2 C0; obtain ⟨_, _⟩ := n2 E0; obtain ⟨_, _, _, _, _, _, _, _, _, _, _, _, _, _⟩ := bx7 Y0; obtain ⟨Q3, V3, rfl⟩ := Kd.V_slice L0.out; obtain ⟨S3, U3, rfl⟩ := Kd.V_slice N0.out; obtain ⟨_, _, _, _, _, _, _, _, _, _, _, _, _, _⟩ := bx7 n0))
  refine bodyPost_ret (results_ct rfl _ _ u0 32 #[.string (⟨#[]⟩ : ByteArray), .int .i64 0, .int .i64 0, .slice none 0 0, .slice none 0 0, .int .i64 0, .int .i64 0] (0, 0) _ rfl (gP n0 rfl) Tryz.underlying32 rfl (by kernel_rfl)) rfl ?_
  exact ⟨_, _, fe, Kd.V_nil _ _ _ _ _, Kd.V_nil _ _ _ _ _, bh HB⟩
 rw [if_neg c4] at H
 have a3 : (Q0 == 0) = false := beq_eq_false_iff_ne.mpr c4
 have Y2 : (Q0 != 0) = true := bne_iff_ne.mpr c4
 simp only [Option.some.injEq, Prod.mk.injEq] at H
 obtain ⟨rfl, rfl, rfl, rfl, rfl, rfl, rfl, rfl⟩ := H
 go_enter Tryz.func10, Tryz.ntmps10
 go_wp2_with (first | ((with_reducible refine gd_ 2 ?_); refine be_ 2 #[.int .i64 a0_0, .int .i64 a0_1, .slice A0_2 l0_2.length c0_2] 24 ?_; intro M0 hg i4 hbox hb; replace m0 := tVe m0 hg hb; have a0 := am_ hbox; have C1 := tG HB hg; have Z0 := tG HB hg; replace HB := tHb HB hb; clear hb hbox hg) | ((with_reducible refine gd_ 4 ?_); refine be_ 4 #[.string (⟨#[]⟩ : ByteArray), .int .i64 0, .int .i64 0, .slice none 0 0, .slice none 0 0, .int .i64 0, .int .i64 0] 32 ?_; intro u0 hg a4 hbox hb; replace m0 := tVe m0 hg hb; have n0 := am_ hbox; have D1 := tG HB hg; have i1 := tG HB hg; replace HB := tHb HB hb; obtain ⟨o0, O0⟩ := tN a0 hg; replace a0 := tBb a0 hb; clear hb hbox hg; obtain ⟨_, _⟩ := n2 o0; obtain ⟨_, _, _, _, _, _⟩ := bx3 a0) | ((with_reducible refine gate_callee (f := 29) rfl ?_); refine gl_ (some 13) Tryz.func29 #[.agg #[.int .i64 a0_0, .int .i64 a0_1, .slice A0_2 l0_2.length c0_2], .int .i64 a1] ?_; (with_reducible refine (Fa.calls k a0_0 a0_1 _ _ l0_2 a1 U0 Q0 _ ?A0 ?P0 A3.out).mono ?_); (case A0 => repeat (first | exact (Kd.V_reads' m0.out).2.2 | (with_reducible refine Kd.C_alloc ?_ _) | (with_reducible refine Kd.C_drewN ?_ _) | (with_reducible refine Kd.C_drew ?_))); (case P0 => exact (Kd.V_reads' m0.out).2.1); rintro e Y3 ⟨rfl, hb⟩; refine ⟨_, rfl, ?_⟩; replace m0 := tVb m0 hb; replace a0 := tBb a0 hb; replace n0 := tBb n0 hb; replace HB := tHb HB hb; (try clear hb); obtain ⟨_, _, _, _, _, _, _, _, _, _, _, _, _, _⟩ := bx7 n0))
 refine bodyPost_ret (results_ct rfl _ _ u0 32 #[.string (⟨#[]⟩ : ByteArray), .int .i64 0, .int .i64 0, .slice none 0 0, .slice none 0 0, .int .i64 0, .int .i64 0] (0, 0) _ rfl (gP n0 rfl) Tryz.underlying32 rfl (by kernel_rfl)) rfl ?_
 exact ⟨_, _, fe, Kd.V_nil _ _ _ _ _, Kd.V_nil _ _ _ _ _, bh HB⟩

end Go.Proofs.YtopijobdblfhoaaGreat.PTuskAsks
