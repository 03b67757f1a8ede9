-- written by a program of this session (pp.py), out of the kit's print and this session's contracts
import Derived.Test.YtopijobdblfhoaaGreatPTuskAsksx0
import Derived.Test.YtopijobdblfhoaaGreatPTuskAsksx6
import Derived.Test.YtopijobdblfhoaaGreatPTuskAsksx13
import Derived.Test.YtopijobdblfhoaaGreatPTuskAsksx15
import Derived.Test.YtopijobdblfhoaaGreatPTuskAsksx16
import Derived.Test.YtopijobdblfhoaaGreatVTuskAsksPi
namespace Go.Proofs.YtopijobdblfhoaaGreat.PTuskAsks
open Go.RowKit Go.Proofs.YtopijobdblfhoaaGreatW.PrintWords Go.Proofs.YtopijobdblfhoaaGreatW.PrintLast Go.Proofs.YtopijobdblfhoaaGreatW.PrintMore
set_option linter.unusedVariables false
set_option linter.unusedSimpArgs false

mutual
def F9.j0 : Nat → List (S76) → Bool → Option (Int × Int × Int)
 | 0, _, _ => none
 | k + 1, x0, a0 => if a0 = true then (some (0, 0, 1)) else (F9.l0 k x0 0 0 0)
def F9.l0 : Nat → List (S76) → Int → Int → Int → Option (Int × Int × Int)
 | 0, _, _, _, _ => none
 | k + 1, x0, x6, a0, m0 => if x6 < (x0.length : Int) then (if 0 ≤ x6 then ((F1.f ((rd_T76 x0 x6).f1.f0) ((rd_T76 x0 x6).f1.f1)).bind fun z0 => (if z0 = true then ((Fd.f k x0 x6).bind fun n0 => ((G5.f ((rd_T76 x0 x6).f1.f0) ((rd_T76 x0 x6).f1.f1) n0.1 n0.2.1).bind fun u0 => ((Ge.f a0 m0 u0.1 u0.2).bind fun o0 => (F9.l0 k x0 (wrap64 (x6 + 1)) o0.1 o0.2)))) else (some (0, 0, 1)))) else (none)) else (some (a0, m0, 0))
end
def F9.f (k : Nat) (l0 : List (S76)) : Option (Int × Int × Int) := (F4.f k l0).bind fun a0 => (if a0 = true then (F9.j0 k l0 ((l0.length : Int) == 0)) else (F9.j0 k l0 true))
def F9.T12 : Bool × List (List Nat × List Nat) := (true, [([], []), ([], []), ([], []), ([1, 2], [1, 2]), ([3], [3]), ([4], [4]), ([], []), ([5, 6], [5, 6]), ([0, 7, 7], [0, 7]), ([8, 8, 0, 1, 2, 3, 4, 5, 6, 7, 8], [8])])
def F9.B12 : List Nat := [0, 0, 0, 6, 14, 30, 0, 126, 255, 511]
theorem F9.tab12 : rtab .any (opsOf Tryz.f55 12) = F9.T12 := by kernel_rfl
theorem F9.bits12 : waitsOk F9.T12.2 F9.B12 = true := by kernel_rfl
set_option maxHeartbeats 8000000 in
set_option maxRecDepth 100000 in
theorem F9.calls (k : Nat) (A0 : Option Addr) (c0 : Nat) (l0 : List (S76)) (r1 : Int) (r2 : Int) (r3 : Int) (w : World) (O4 : Kd.C k76 w A0 l0.length l0) (s4 : l0.length ≤ c0) (h : F9.f k l0 = some (r1, r2, r3)) :
  Calls Tryz.prog 55 #[.slice A0 l0.length c0] w fun e w' => e = .returned (.tuple #[.agg #[.int .i64 r1, .int .i64 r2], .int .i64 r3]) ∧ Below w.heap.size w w' := by
 have S4 := Tryz.underlying28
 have Y2 := am_ O4
 have l4 := am_ s4
 clear O4 s4
 have HB := am_ (Below.refl w.heap.size w)
 have H : ((F4.f k l0).bind fun Y1 => (if Y1 = true then (F9.j0 k l0 ((l0.length : Int) == 0)) else (F9.j0 k l0 true))) = some (r1, r2, r3) := h
 clear h
 replace H := Option.bind_eq_some_iff.mp H
 obtain ⟨Y1, P4, H⟩ := H
 try dsimp only at H
 have A2 := am_ P4
 clear P4
 have Z3 := am_ H
 clear H
 go_enter Tryz.func55, Tryz.ntmps55
 go_upto_region 2 with (first | ((with_reducible refine gd_ 2 ?_); (try (refine gate_guard (by rfl) ?_; dsimp only)); refine be_ 2 #[.int .i64 0, .int .i64 0] 28 ?_; intro i1 hg w4 hbox hb; have a0 := am_ hbox; have I4 := tG HB hg; have L4 := tG HB hg; replace HB := tHb HB hb; clear hb hbox hg) | ((with_reducible refine gate_callee (f := 76) rfl ?_); refine gl_ (some 11) Tryz.func76 #[.slice A0 l0.length c0] ?_; (with_reducible refine (F4.calls k _ _ l0 Y1 _ ?U1 ?V1 A2.out).mono ?_); (case U1 => exact gCB Y2 HB); (case V1 => exact l4.out); rintro e w' ⟨rfl, ⟨nd, rfl⟩⟩; refine ⟨_, rfl, ?_⟩))
 (try simp only [Act.put, List.setIfInBounds_toArray, List.set_cons_zero, List.set_cons_succ])
 go_cut [18] (fun a5 wc => ∃ (kq : Nat) (L1 : Bool), a5 = .bool L1 ∧ Asc (F9.j0 kq l0 L1 = some (r1, r2, r3)) ∧ Asc (kq ≤ k) ∧ Asc (wc.heap[i1]? = some (.cells #[.int .i64 0, .int .i64 0] 28 (0, 0))) ∧ Asc (Below w.heap.size w wc))
 case first =>
  have H := Z3.out
  clear Z3
  by_cases c5 : Y1 = true
  ·
   subst c5
   rw [if_pos rfl] at H
   have H' := am_ H
   clear H
   go_wp2
   go_meet
   case rel => exact ⟨_, (((l0.length : Int) == 0)), fr, H', ⟨by first | omega | exact Nat.le_refl _⟩, ⟨gB a0⟩, ⟨bh HB⟩⟩
  replace c5 := Bool.eq_false_iff.mpr c5
  subst c5
  rw [if_neg (show ¬ (false = true) by decide)] at H
  have H' := am_ H
  clear H
  go_wp2
  go_meet
  case rel => exact ⟨_, (true), fr, H', ⟨by first | omega | exact Nat.le_refl _⟩, ⟨gB a0⟩, ⟨bh HB⟩⟩
 case rest =>
  clear Z3
  obtain ⟨kq, L1, rfl, HA, k4, a0, HB⟩ := hcut
  cases kq with
  | zero => exact absurd HA.out (by simp [F9.j0])
  | succ C4 =>
   have H := HA.out
   clear HA
   simp only [F9.j0] at H
   by_cases c6 : L1 = true
   ·
    subst c6
    rw [if_pos rfl] at H
    simp only [Option.some.injEq, Prod.mk.injEq] at H
    obtain ⟨rfl, rfl, rfl⟩ := H
    obtain ⟨_, _, _, _⟩ := bx2 a0
    go_wp2
    refine bodyPost_ret (results_ct rfl _ _ i1 28 #[.int .i64 0, .int .i64 0] (0, 0) _ rfl (gP a0 rfl) Tryz.underlying28 rfl (by kernel_rfl)) rfl ?_
    exact ⟨fe, bh HB⟩
   replace c6 := Bool.eq_false_iff.mpr c6
   subst c6
   rw [if_neg (show ¬ (false = true) by decide)] at H
   have H' := am_ H
   clear H
   go_wp2_with (first | ((with_reducible refine gd_ 5 ?_); (try (refine gate_guard (by rfl) ?_; dsimp only)); refine be_ 5 #[.int .i64 0, .int .i64 0] 28 ?_; intro O1 hg w8 hbox hb; have m0 := am_ hbox; have m4 := tG HB hg; have u4 := tG HB hg; replace HB := tHb HB hb; obtain ⟨N0, C0⟩ := tN a0 hg; replace a0 := tBb a0 hb; clear hb hbox hg; obtain ⟨_, _⟩ := n2 C0; obtain ⟨m3, k3, i3, l3⟩ := bx2 m0))
   go_loopg [6] C4 (fun kq v6 w' => ∃ (n0 : Int) (O0 : Int) (M0 : Int) (u0 : Int) (o0 : Int), v6 = .int .i64 n0 ∧ Asc (F9.l0 kq l0 n0 u0 o0 = some (r1, r2, r3)) ∧ Asc (kq ≤ C4) ∧ Asc (w'.heap[i1]? = some (.cells #[.int .i64 O0, .int .i64 M0] 28 (0, 0))) ∧ Asc (w'.heap[O1]? = some (.cells #[.int .i64 u0, .int .i64 o0] 28 (0, 0))) ∧ Asc (Below w.heap.size w w'))
   case atStart => exact ⟨(0), (0), (0), (0), (0), fr, H', ⟨Nat.le_refl _⟩, ⟨gB a0⟩, ⟨gP m0 rfl⟩, ⟨bh HB⟩⟩
   case round =>
    clear H'
    try clear c6 m3 k3 i3 l3
    obtain ⟨n0, O0, M0, u0, o0, rfl, HA, M4, a0, m0, HB⟩ := hrel
    cases gk with
    | zero => exact absurd HA.out (by simp [F9.l0])
    | succ k2 =>
     have H := HA.out
     clear HA
     simp only [F9.l0] at H
     by_cases N2 : n0 < (l0.length : Int)
     ·
      rw [if_pos N2] at H
      have D3 : decide (n0 < (l0.length : Int)) = true := decide_eq_true N2
      clear N2
      revert H
      refine gi (fun Q4 H => ?_)
      replace H := Option.bind_eq_some_iff.mp H
      obtain ⟨i4, Z2, H⟩ := H
      try dsimp only at H
      have N4 := am_ Z2
      clear Z2
      by_cases U3 : i4 = true
      ·
       subst U3
       rw [if_pos rfl] at H
       replace H := Option.bind_eq_some_iff.mp H
       obtain ⟨⟨X1, Q1, a4⟩, b3, H⟩ := H
       try dsimp only at H
       have W4 := am_ b3
       clear b3
       replace H := Option.bind_eq_some_iff.mp H
       obtain ⟨⟨J2, D2⟩, C3, H⟩ := H
       try dsimp only at H
       have U4 := am_ C3
       clear C3
       replace H := Option.bind_eq_some_iff.mp H
       obtain ⟨⟨u3, V2⟩, a3, H⟩ := H
       try dsimp only at H
       have X4 := am_ a3
       clear a3
       have H' := am_ H
       clear H
       have C1 : 0 ≤ (n0 : Int) := dt
       have D1 : n0 < (l0.length : Int) := dt
       obtain ⟨P1, L2, I0, L0, E0⟩ := at_T76 Y2.out n0 C1 D1
       cases L2
       replace I0 := ce HB I0
       replace L0 := ce HB L0
       replace E0 := ce HB E0
       replace C1 := eq_true C1
       replace D1 := eq_true D1
       try go_wp2_with (first | ((with_reducible refine gate_callee (f := 77) rfl ?_); refine gl_ (some 32) Tryz.func77 #[.agg #[.int .i64 ((rd_T76 l0 n0).f1.f0), .int .i64 ((rd_T76 l0 n0).f1.f1)]] ?_; (with_reducible refine (F1.calls ((rd_T76 l0 n0).f1.f0) ((rd_T76 l0 n0).f1.f1) true _ N4.out).mono ?_); rintro e b5 ⟨rfl, hb⟩; refine ⟨_, rfl, ?_⟩; replace a0 := tBb a0 hb; replace m0 := tBb m0 hb; replace HB := tHb HB hb; (try clear hb)) | ((with_reducible refine gate_callee (f := 78) rfl ?_); refine gl_ (some 39) Tryz.func78 #[.slice (some P1) l0.length c0, .int .i64 n0] ?_; (with_reducible refine (Fd.calls k2 _ _ l0 n0 X1 Q1 a4 _ ?U1 ?V1 W4.out).mono ?_); (case U1 => exact gCB Y2 HB); (case V1 => exact l4.out); rintro e k5 ⟨rfl, hb⟩; refine ⟨_, rfl, ?_⟩; replace a0 := tBb a0 hb; replace m0 := tBb m0 hb; replace HB := tHb HB hb; (try clear hb)) | ((with_reducible refine gd_ 8 ?_); (try (refine gate_guard (by rfl) ?_; dsimp only)); refine be_ 8 #[.int .i64 0, .int .i64 0] 28 ?_; intro Z1 hg V4 hbox hb; have z0 := am_ hbox; have K4 := tG HB hg; have D4 := tG HB hg; replace HB := tHb HB hb; obtain ⟨Q2, N1⟩ := tN a0 hg; replace a0 := tBb a0 hb; obtain ⟨W0, P0⟩ := tN m0 hg; replace m0 := tBb m0 hb; clear hb hbox hg; obtain ⟨_, _⟩ := n2 N1; obtain ⟨_, _⟩ := n2 P0; obtain ⟨_, _, _, _⟩ := bx2 z0) | ((with_reducible refine gate_store (t := 28) (p := 8) rfl ?_); refine se_ 28 8 ((V4.setCell ⟨Z1, 0, none⟩ (.int .i64 X1)).setCell ⟨Z1, 1, none⟩ (.int .i64 Q1)) ?_; intro Z4 hw; replace a0 := sB a0 hw; replace m0 := sB m0 hw; replace z0 := sP #[.int .i64 X1, .int .i64 Q1] z0 hw; replace HB := sH HB hw; clear hw))
       replace a0 := am_ (blk_drew a0.out)
       replace m0 := am_ (blk_drew m0.out)
       replace z0 := am_ (blk_drew z0.out)
       replace HB := am_ (below_drew1 HB.out)
       have C2 : 0 ≤ (n0 : Int) := dt
       have i2 : n0 < (l0.length : Int) := dt
       obtain ⟨I3, Y3, V0, U0, Q0⟩ := at_T76 Y2.out n0 C2 i2
       have Y0 := Q0
       have X0 := U0
       have Z0 := V0
       obtain rfl : P1 = I3 := (by injection Y3)
       replace V0 := ce HB V0
       replace U0 := ce HB U0
       replace Q0 := ce HB Q0
       replace C2 := eq_true C2
       replace i2 := eq_true i2
       refine st_ 10 [9] (k2_ m0 (k2_ z0 (cd_ (ce HB (by first | exact Z0)) (cd_ (ce HB (by first | exact X0)) (cd_ (ce HB (by first | exact Y0)) ct))))) (fun hHeld => ?_); refine with_tabW F9.tab12 F9.bits12 (fun HT_ HW_ => ?_)
       generalize Z4.drew = j5 at a0 m0 z0 HB V0 U0 Q0 hHeld ⊢
       refine pu_ 1 (some 43) 2 HT_ (h := ?_)
       refine pu_ 2 (some 44) 6 HT_ (h := ?_)
       refine pu_ 3 (some 45) 14 HT_ (h := ?_)
       refine pu_ 4 (some 46) 30 HT_ (h := ?_)
       refine tk_ 0 (some 42) 31 HT_ HW_ hHeld (h := ?_)
       refine tk_ 5 (some 47) 63 HT_ HW_ hHeld (h := ?_)
       refine tk_ 6 (some 48) 127 HT_ HW_ hHeld (h := ?_)
       refine one_ (i := 7) (N := some 49) #[true, true, true, true, true, true, true, true, false, false] rfl rfl (one_of HT_.out (by kernel_rfl)) (by decide) (fun K hK => ?_)
       refine goes_ Tryz.func80 (by kernel_rfl) rfl #[.agg #[.int .i64 ((rd_T76 l0 n0).f1.f0), .int .i64 ((rd_T76 l0 n0).f1.f1)], .agg #[.int .i64 X1, .int .i64 Q1]] (by rfl) rfl rfl (by (try simp only [List.map_toArray, List.map_cons, List.map_nil]); first | done | rfl | (simp only [List.length_drop, List.length_take]; rfl)) ?_
       with_reducible refine (G5.calls ((rd_T76 l0 n0).f1.f0) ((rd_T76 l0 n0).f1.f1) X1 Q1 J2 D2 _ U4.out).mono ?_
       rintro e l5 ⟨rfl, hb⟩
       refine ⟨_, rfl, ?_⟩
       replace a0 := tBb a0 hb
       replace m0 := tBb m0 hb
       replace z0 := tBb z0 hb
       replace HB := tHb HB hb
       (try clear hb)
       (try clear hb2)
       (try clear hk)
       (try clear hi)
       refine hK.out _ _ (m2_ m0 (m2_ z0 (m0_ (ce HB (by first | exact Z0)) (m0_ (ce HB (by first | exact X0)) (m0_ (ce HB (by first | exact Y0)) ct))))) (fun hHeld => ?_)
       clear hK K
       refine norm_ (a' := ?_) ?_ ?_
       rotate_left
       ·
        show Act.put _ (some 49) _ = _
        simp only [Act.put, List.setIfInBounds_toArray, List.set_cons_zero, List.set_cons_succ, i64_w, i32_w]
        rfl
       refine one_ (i := 8) (N := some 50) #[true, true, true, true, true, true, true, true, true, false] rfl rfl (one_of HT_.out (by kernel_rfl)) (by decide) (fun K hK => ?_)
       refine goes_ Tryz.func79 (by kernel_rfl) rfl #[.agg #[.int .i64 u0, .int .i64 o0], .agg #[.int .i64 J2, .int .i64 D2]] (by rfl) rfl rfl (by (try simp only [List.map_toArray, List.map_cons, List.map_nil]); first | done | rfl | (simp only [List.length_drop, List.length_take]; rfl)) ?_
       with_reducible refine (Ge.calls u0 o0 J2 D2 u3 V2 _ X4.out).mono ?_
       rintro e J4 ⟨rfl, hb⟩
       refine ⟨_, rfl, ?_⟩
       replace a0 := tBb a0 hb
       replace m0 := tBb m0 hb
       replace z0 := tBb z0 hb
       replace HB := tHb HB hb
       (try clear hb)
       (try clear hb2)
       (try clear hk)
       (try clear hi)
       refine hK.out _ _ (m2_ m0 (m2_ z0 (m0_ (ce HB (by first | exact Z0)) (m0_ (ce HB (by first | exact X0)) (m0_ (ce HB (by first | exact Y0)) ct))))) (fun hHeld => ?_)
       clear hK K
       refine norm_ (a' := ?_) ?_ ?_
       rotate_left
       ·
        show Act.put _ (some 50) _ = _
        simp only [Act.put, List.setIfInBounds_toArray, List.set_cons_zero, List.set_cons_succ, i64_w, i32_w]
        rfl
       refine last_ (i := 9) (N := none) #[true, true, true, true, true, true, true, true, true, true] rfl rfl (one_of HT_.out (by kernel_rfl)) (by decide) (fun K hK => ?_)
       have R4 : J4.cell? ⟨O1, 0, none⟩ = some (.int .i64 u0) := (blk_cell m0.out 0).trans rfl
       have E4 := blk_frozen m0.out 0
       have J3 := N0.out
       have N3 := P0.out
       have L3 := C0.out
       have Q3 := W0.out
       have Y4 : J4.cell? ⟨O1, 1, none⟩ = some (.int .i64 o0) := (blk_cell m0.out 1).trans rfl
       have j4 := blk_frozen m0.out 1
       have X3 := N0.out
       have S3 := P0.out
       have W3 := C0.out
       have V3 := W0.out
       refine skip_ (w1 := ?_) (by rfl) rfl ?_ ?_
       rotate_left
       ·
        go_simp
        rfl
       refine hK.out _ _ ?_
       clear hK K
       refine done_ (done_of HT_.out (by kernel_rfl)) ?_
       try go_wp2
       go_roundg k2
       case measure => have := k4.out; have := M4.out; omega
       case rel => exact ⟨(wrap64 (n0 + 1)), (O0), (M0), (u3), (V2), fr, H', ⟨by have := k4.out; have := M4.out; omega⟩, ⟨gB a0⟩, ⟨gP m0 rfl⟩, ⟨bh HB⟩⟩
      replace U3 := Bool.eq_false_iff.mpr U3
      subst U3
      rw [if_neg (show ¬ (false = true) by decide)] at H
      simp only [Option.some.injEq, Prod.mk.injEq] at H
      obtain ⟨rfl, rfl, rfl⟩ := H
      have C1 : 0 ≤ (n0 : Int) := dt
      have D1 : n0 < (l0.length : Int) := dt
      obtain ⟨P1, L2, I0, L0, E0⟩ := at_T76 Y2.out n0 C1 D1
      cases L2
      replace I0 := ce HB I0
      replace L0 := ce HB L0
      replace E0 := ce HB E0
      replace C1 := eq_true C1
      replace D1 := eq_true D1
      go_wp2_with (first | ((with_reducible refine gate_callee (f := 77) rfl ?_); refine gl_ (some 32) Tryz.func77 #[.agg #[.int .i64 ((rd_T76 l0 n0).f1.f0), .int .i64 ((rd_T76 l0 n0).f1.f1)]] ?_; (with_reducible refine (F1.calls ((rd_T76 l0 n0).f1.f0) ((rd_T76 l0 n0).f1.f1) false _ N4.out).mono ?_); rintro e i5 ⟨rfl, hb⟩; refine ⟨_, rfl, ?_⟩; replace a0 := tBb a0 hb; replace m0 := tBb m0 hb; replace HB := tHb HB hb; (try clear hb); obtain ⟨_, _⟩ := n2 N0; obtain ⟨_, _, _, _⟩ := bx2 a0))
      refine bodyPost_ret (results_ct rfl _ _ i1 28 #[.int .i64 0, .int .i64 0] (0, 0) _ rfl (gP a0 rfl) Tryz.underlying28 rfl (by kernel_rfl)) rfl ?_
      exact ⟨fe, bh HB⟩
     rw [if_neg N2] at H
     have D3 : decide (n0 < (l0.length : Int)) = false := decide_eq_false N2
     clear N2
     simp only [Option.some.injEq, Prod.mk.injEq] at H
     obtain ⟨rfl, rfl, rfl⟩ := H
     obtain ⟨_, _⟩ := n2 C0
     obtain ⟨_, _, _, _⟩ := bx2 m0
     obtain ⟨_, _, _, _⟩ := bx2 a0
     go_wp2
     refine bodyPost_ret (results_ct rfl _ _ i1 28 #[.int .i64 u0, .int .i64 o0] (0, 0) _ rfl (gP a0 rfl) Tryz.underlying28 rfl (by kernel_rfl)) rfl ?_
     exact ⟨fe, bh HB⟩

def Gl.f (a0_0 : Int) (a0_1 : Int) (a1 : Int) : Option (Int) := (Fm.f a1).bind fun m0 => ((F1.f a0_0 a0_1).bind fun a0 => (if m0 = true then (if a0 = true then (if a1 = 0 then (none) else (some (wrap64 (1 + (Int.tmod (wrap64 ((wrap64 (a0_0 * 10007)) + a0_1)) a1))))) else (some 0)) else (some 0)))
set_option maxHeartbeats 8000000 in
set_option maxRecDepth 100000 in
theorem Gl.calls (a0_0 : Int) (a0_1 : Int) (a1 : Int) (r : Int) (w : World) (h : Gl.f a0_0 a0_1 a1 = some r) :
  Calls Tryz.prog 56 #[.agg #[.int .i64 a0_0, .int .i64 a0_1], .int .i64 a1] w fun e w' => e = .returned (.int .i64 r) ∧ Below w.heap.size w w' := by
 have I0 := Tryz.underlying28
 have HB := am_ (Below.refl w.heap.size w)
 have H : ((Fm.f a1).bind fun z0 => ((F1.f a0_0 a0_1).bind fun m0 => (if z0 = true then (if m0 = true then (if a1 = 0 then (none) else (some (wrap64 (1 + (Int.tmod (wrap64 ((wrap64 (a0_0 * 10007)) + a0_1)) a1))))) else (some 0)) else (some 0)))) = some r := h
 clear h
 replace H := Option.bind_eq_some_iff.mp H
 obtain ⟨z0, C0, H⟩ := H
 try dsimp only at H
 have A3 := am_ C0
 clear C0
 replace H := Option.bind_eq_some_iff.mp H
 obtain ⟨m0, A0, H⟩ := H
 try dsimp only at H
 have A4 := am_ A0
 clear A0
 by_cases c5 : z0 = true
 ·
  subst c5
  rw [if_pos rfl] at H
  by_cases c6 : m0 = true
  ·
   subst c6
   rw [if_pos rfl] at H
   by_cases c7 : a1 = 0
   ·
    rw [if_pos c7] at H
    exact absurd H (by simp)
   rw [if_neg c7] at H
   have L0 : (a1 == 0) = false := beq_eq_false_iff_ne.mpr c7
   have E0 : (a1 != 0) = true := bne_iff_ne.mpr c7
   obtain rfl := Option.some.inj H
   go_enter Tryz.func56, Tryz.ntmps56
   go_wp2_with (first | ((with_reducible refine gd_ 2 ?_); refine be_ 2 #[.int .i64 a0_0, .int .i64 a0_1] 28 ?_; intro n0 hg w8 hbox hb; have a0 := am_ hbox; have o0 := tG HB hg; have u0 := tG HB hg; replace HB := tHb HB hb; clear hb hbox hg) | ((with_reducible refine gate_callee (f := 54) rfl ?_); refine gl_ (some 8) Tryz.func54 #[.int .i64 a1] ?_; (with_reducible refine (Fm.calls a1 true _ A3.out).mono ?_); rintro e w' ⟨rfl, ⟨nd, rfl⟩⟩; refine ⟨_, rfl, ?_⟩; obtain ⟨_, _, _, _⟩ := bx2 a0) | ((with_reducible refine gate_callee (f := 77) rfl ?_); refine gl_ (some 10) Tryz.func77 #[.agg #[.int .i64 a0_0, .int .i64 a0_1]] ?_; (with_reducible refine (F1.calls a0_0 a0_1 true _ A4.out).mono ?_); rintro e Q0 ⟨rfl, hb⟩; refine ⟨_, rfl, ?_⟩; replace a0 := tBb a0 hb; replace HB := tHb HB hb; (try clear hb); obtain ⟨_, _, _, _⟩ := bx2 a0))
   go_ret
   exact ⟨fe, bh HB⟩
  replace c6 := Bool.eq_false_iff.mpr c6
  subst c6
  rw [if_neg (show ¬ (false = true) by decide)] at H
  obtain rfl := Option.some.inj H
  go_enter Tryz.func56, Tryz.ntmps56
  go_wp2_with (first | ((with_reducible refine gd_ 2 ?_); refine be_ 2 #[.int .i64 a0_0, .int .i64 a0_1] 28 ?_; intro n0 hg M0 hbox hb; have a0 := am_ hbox; have o0 := tG HB hg; have u0 := tG HB hg; replace HB := tHb HB hb; clear hb hbox hg) | ((with_reducible refine gate_callee (f := 54) rfl ?_); refine gl_ (some 8) Tryz.func54 #[.int .i64 a1] ?_; (with_reducible refine (Fm.calls a1 true _ A3.out).mono ?_); rintro e w' ⟨rfl, ⟨nd, rfl⟩⟩; refine ⟨_, rfl, ?_⟩; obtain ⟨_, _, _, _⟩ := bx2 a0) | ((with_reducible refine gate_callee (f := 77) rfl ?_); refine gl_ (some 10) Tryz.func77 #[.agg #[.int .i64 a0_0, .int .i64 a0_1]] ?_; (with_reducible refine (F1.calls a0_0 a0_1 false _ A4.out).mono ?_); rintro e N0 ⟨rfl, hb⟩; refine ⟨_, rfl, ?_⟩; replace a0 := tBb a0 hb; replace HB := tHb HB hb; (try clear hb)))
  go_ret
  exact ⟨fe, bh HB⟩
 replace c5 := Bool.eq_false_iff.mpr c5
 subst c5
 rw [if_neg (show ¬ (false = true) by decide)] at H
 obtain rfl := Option.some.inj H
 go_enter Tryz.func56, Tryz.ntmps56
 go_wp2_with (first | ((with_reducible refine gd_ 2 ?_); refine be_ 2 #[.int .i64 a0_0, .int .i64 a0_1] 28 ?_; intro n0 hg P0 hbox hb; have a0 := am_ hbox; have o0 := tG HB hg; have u0 := tG HB hg; replace HB := tHb HB hb; clear hb hbox hg) | ((with_reducible refine gate_callee (f := 54) rfl ?_); refine gl_ (some 8) Tryz.func54 #[.int .i64 a1] ?_; (with_reducible refine (Fm.calls a1 false _ A3.out).mono ?_); rintro e w' ⟨rfl, ⟨nd, rfl⟩⟩; refine ⟨_, rfl, ?_⟩; obtain ⟨_, _, _, _⟩ := bx2 a0) | ((with_reducible refine gate_callee (f := 77) rfl ?_); refine gl_ (some 10) Tryz.func77 #[.agg #[.int .i64 a0_0, .int .i64 a0_1]] ?_; (with_reducible refine (F1.calls a0_0 a0_1 m0 _ A4.out).mono ?_); rintro e O0 ⟨rfl, hb⟩; refine ⟨_, rfl, ?_⟩; replace a0 := tBb a0 hb; replace HB := tHb HB hb; (try clear hb)))
 go_ret
 exact ⟨fe, bh HB⟩

end Go.Proofs.YtopijobdblfhoaaGreat.PTuskAsks
