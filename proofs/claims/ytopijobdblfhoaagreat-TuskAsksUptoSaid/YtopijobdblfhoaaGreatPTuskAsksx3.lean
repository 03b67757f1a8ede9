-- written by a program of this session (pp.py), out of the kit's print and this session's contracts
import Derived.Test.YtopijobdblfhoaaGreatPTuskAsksx0
import Derived.Test.YtopijobdblfhoaaGreatPTuskAsksx2
import Derived.Test.YtopijobdblfhoaaGreatVTuskAsksPi
namespace Go.Proofs.YtopijobdblfhoaaGreat.PTuskAsks
open Go.RowKit Go.Proofs.YtopijobdblfhoaaGreatW.PrintWords Go.Proofs.YtopijobdblfhoaaGreatW.PrintLast Go.Proofs.YtopijobdblfhoaaGreatW.PrintMore
set_option linter.unusedVariables false
set_option linter.unusedSimpArgs false

def Fw.l0 : Nat → Int → List (S32) → List (S32) → Int → Int → Option ((List (S32)))
 | 0, _, _, _, _, _ => none
 | k + 1, x1, x5, x9, m0, a0 => if a0 < m0 then (if 0 ≤ a0 then (if a0 < (x9.length : Int) then (if ((rd_T32 x9 a0).f1.f1) = x1 then (if x5.length < 1466015503701 then (Fw.l0 k x1 (x5 ++ [(⟨(rd_T32 x9 a0).f0, (⟨(rd_T32 x9 a0).f1.f0, (rd_T32 x9 a0).f1.f1, (rd_T32 x9 a0).f1.f2, (rd_T32 x9 a0).f1.f3, (⟨(rd_T32 x9 a0).f1.f4.f0, (rd_T32 x9 a0).f1.f4.f1⟩ : S28)⟩ : S30)⟩ : S32)]) x9 m0 (wrap64 (a0 + 1))) else (none)) else (Fw.l0 k x1 x5 x9 m0 (wrap64 (a0 + 1)))) else (none)) else (none)) else (some x5)
def Fw.f (k : Nat) (a0_0 : Int) (a0_1 : Int) (l0_2 : List (S32)) (a1 : Int) : Option ((List (S32))) := Fw.l0 k a1 ([] : List (S32)) l0_2 (l0_2.length : Int) 0
set_option maxHeartbeats 8000000 in
set_option maxRecDepth 100000 in
theorem Fw.calls (k : Nat) (a0_0 : Int) (a0_1 : Int) (n0 : Nat → Prop) (A0_2 : Option Addr) (c0_2 : Nat) (l0_2 : List (S32)) (a1 : Int) (r : List (S32)) (w : World) (m3 : Kd.V k32 32 w w.heap.size (fun k_ => n0 k_) (.slice A0_2 l0_2.length c0_2) l0_2) (h : Fw.f k a0_0 a0_1 l0_2 a1 = some r) :
  Calls Tryz.prog 34 #[.agg #[.int .i64 a0_0, .int .i64 a0_1, .slice A0_2 l0_2.length c0_2], .int .i64 a1] w fun e w' => ∃ j4 : Value, e = .returned (j4) ∧ Kd.N k32 32 w' w.heap.size (fun k_ => (n0 k_ ∨ w.heap.size ≤ k_)) j4 r ∧ Below w.heap.size w w' := by
 have u4 := Tryz.underlying24
 have C4 := Tryz.underlying32
 have Y1 := am_ (show Kd.V k32 32 w w.heap.size (fun k_ => (n0 k_ ∨ w.heap.size ≤ k_)) (.slice A0_2 l0_2.length c0_2) l0_2 from Kd.V_mono m3 (fun k_ hk => .inl hk))
 have HB := am_ (Below.refl w.heap.size w)
 have H : (Fw.l0 k a1 ([] : List (S32)) l0_2 (l0_2.length : Int) 0) = some r := h
 clear h
 have H' := am_ H
 clear H
 go_enter Tryz.func34, Tryz.ntmps34
 go_wp2_with (first | ((with_reducible refine gd_ 2 ?_); refine be_ 2 #[.int .i64 a0_0, .int .i64 a0_1, .slice A0_2 l0_2.length c0_2] 24 ?_; intro u0 hg w3 hbox hb; replace Y1 := tVe Y1 hg hb; have A0 := am_ hbox; have k4 := tG HB hg; have i4 := tG HB hg; replace HB := tHb HB hb; clear hb hbox hg; obtain ⟨V3, S3, X3, U3, Y3, a4⟩ := bx3 A0))
 go_loopg [5, 11] k (fun kq v5 s4 w' => ∃ (Z1 : List (S32)) (a0 : Int), s4 = .int .i64 a0 ∧ Asc (Fw.l0 kq a1 Z1 l0_2 (l0_2.length : Int) a0 = some r) ∧ Asc (kq ≤ k) ∧ Asc (Kd.N k32 32 w' w.heap.size (fun k_ => (n0 k_ ∨ w.heap.size ≤ k_) ∧ k_ ≠ u0) v5 Z1) ∧ Asc (Kd.V k32 32 w' w.heap.size (fun k_ => (n0 k_ ∨ w.heap.size ≤ k_) ∧ some k_ ≠ (v5 : Value).ownBlock ∧ k_ ≠ u0) (.slice A0_2 l0_2.length c0_2) l0_2) ∧ Asc (Kd.V k32 32 w' w.heap.size (fun k_ => (n0 k_ ∨ w.heap.size ≤ k_) ∧ some k_ ≠ (v5 : Value).ownBlock ∧ k_ ≠ u0) (.slice A0_2 l0_2.length c0_2) l0_2) ∧ Asc (w'.heap[u0]? = some (.cells #[.int .i64 a0_0, .int .i64 a0_1, (.slice A0_2 l0_2.length c0_2)] 24 (0, 0))) ∧ Asc (Below w.heap.size w w'))
 case atStart => exact ⟨(([] : List (S32))), (0), fr, H', ⟨Nat.le_refl _⟩, ⟨kn⟩, ⟨gV Y1⟩, ⟨gV Y1⟩, ⟨gB A0⟩, ⟨bh HB⟩⟩
 case round =>
  clear H'
  try clear V3 S3 X3 U3 Y3 a4
  obtain ⟨Z1, a0, rfl, HA, L3, HO_5, HO_9, HO_127002, A0, HB⟩ := hrel
  cases gk with
  | zero => exact absurd HA.out (by simp [Fw.l0])
  | succ k1 =>
   have H := HA.out
   clear HA
   simp only [Fw.l0] at H
   by_cases c5 : a0 < (l0_2.length : Int)
   ·
    rw [if_pos c5] at H
    have N3 : decide (a0 < (l0_2.length : Int)) = true := decide_eq_true c5
    clear c5
    revert H
    refine gi (fun l4 H => ?_)
    revert H
    refine gi (fun D4 H => ?_)
    by_cases c8 : ((rd_T32 l0_2 a0).f1.f1) = a1
    ·
     rw [if_pos c8] at H
     have Z3 : (((rd_T32 l0_2 a0).f1.f1) == a1) = true := beq_iff_eq.mpr c8
     have W3 : (((rd_T32 l0_2 a0).f1.f1) != a1) = false := bne_eq_false_iff_eq.mpr c8
     clear c8
     revert H
     refine gi' (fun c9 H => ?_)
     have Q3 := am_ c9
     clear c9
     obtain ⟨I3, U1⟩ : ∃ y_ : List (S32), y_ = (Z1 ++ [(⟨(rd_T32 l0_2 a0).f0, (⟨(rd_T32 l0_2 a0).f1.f0, (rd_T32 l0_2 a0).f1.f1, (rd_T32 l0_2 a0).f1.f2, (rd_T32 l0_2 a0).f1.f3, (⟨(rd_T32 l0_2 a0).f1.f4.f0, (rd_T32 l0_2 a0).f1.f4.f1⟩ : S28)⟩ : S30)⟩ : S32)]) := ⟨_, rfl⟩
     replace H : (Fw.l0 k1 a1 I3 l0_2 (l0_2.length : Int) (wrap64 (a0 + 1))) = some r := by first | (rw [U1]; with_reducible exact H) | (have H := (Option.bind_some _ _).symm.trans H; first | (rw [U1]; with_reducible exact H) | with_reducible exact H) | with_reducible exact H | (rw [U1]; exact H) | exact H
     have u3 := am_ U1
     clear U1
     have H' := am_ H
     clear H
     have D1 : 0 ≤ (a0 : Int) := dt
     have Q1 : a0 < (l0_2.length : Int) := dt
     obtain ⟨k3, C1, N1, L1, i1, i3, V2, L2, N2, P1, O1, b3, Z2, Y0, V0, X0, U0⟩ := at_T32 (Kd.V_reads' HO_9.out).2.2 a0 D1 Q1
     cases i3
     obtain ⟨D3, X1, V1, O0⟩ := Kd.V_get HO_9.out z32 a0 D1 (by first | exact Q1 | exact dt | (have e_ := (Kd.V_reads' HO_9.out).1; omega))
     obtain ⟨Q2, Y2, D2, a3, rfl, I0, L0, M0, N0⟩ := k32_openF V1
     have E0 := O0 3 _ rfl
     rw [add_field _ _ 3 (by omega)] at E0
     replace E0 := Option.some.inj (E0.symm.trans P1)
     injection E0 with hva_ hvn_ hvc_
     rw [hva_] at L0
     rw [hvc_] at I0
     have z0 := am_ (show Kd.V k107 107 _ w.heap.size _ _ ((rd_T32 l0_2 a0).f1.f2) from Kd.V_mk I0 L0)
     clear hva_ hvn_ hvc_ L0 I0
     have C0 := O0 4 _ rfl
     rw [add_field _ _ 4 (by omega)] at C0
     replace C0 := Option.some.inj (C0.symm.trans O1)
     injection C0 with hva_ hvn_ hvc_
     rw [hva_] at N0
     rw [hvc_] at M0
     have o0 := am_ (show Kd.V Kd.string 9 _ w.heap.size _ _ ((rd_T32 l0_2 a0).f1.f3) from Kd.V_mk M0 N0)
     clear hva_ hvn_ hvc_ N0 M0 O0 X1
     have P0 := am_ V0
     have C2 := am_ Y0
     clear V0 Y0
     have Q0 := am_ U0
     have J2 := am_ X0
     clear U0 X0
     replace D1 := eq_true D1
     replace Q1 := eq_true Q1
     go_wp2_with (first | ((with_reducible refine gd_ 7 ?_); refine be_ 7 #[.string (⟨#[]⟩ : ByteArray), .int .i64 0, .int .i64 0, .slice none 0 0, .slice none 0 0, .int .i64 0, .int .i64 0] 32 ?_; intro m0 hg E4 hbox hb; replace HO_5 := tNe HO_5 hg hb; replace HO_9 := tVe HO_9 hg hb; replace HO_127002 := tVe HO_127002 hg hb; replace z0 := tVe z0 hg hb; replace o0 := tVe o0 hg hb; replace P0 := tCb P0 hb; replace Q0 := tCb Q0 hb; have W0 := am_ hbox; have C3 := tG HB hg; have J3 := tG HB hg; replace HB := tHb HB hb; obtain ⟨i2, Z0⟩ := tN A0 hg; replace A0 := tBb A0 hb; clear hb hbox hg; obtain ⟨_, _⟩ := n2 Z0; obtain ⟨_, _, _, _, _, _, _, _, _, _, _, _, _, _⟩ := bx7 W0) | ((with_reducible refine gate_store (t := 32) (p := 7) rfl ?_); refine se_ 32 7 (((((((E4.setCell ⟨m0, 0, none⟩ (.string ((rd_T32 l0_2 a0).f0))).setCell ⟨m0, 1, none⟩ (.int .i64 ((rd_T32 l0_2 a0).f1.f0))).setCell ⟨m0, 2, none⟩ (.int .i64 ((rd_T32 l0_2 a0).f1.f1))).setCell ⟨m0, 3, none⟩ (.slice C1 ((rd_T32 l0_2 a0).f1.f2).length N1)).setCell ⟨m0, 4, none⟩ (.slice L1 ((rd_T32 l0_2 a0).f1.f3).length i1)).setCell ⟨m0, 5, none⟩ (.int .i64 ((rd_T32 l0_2 a0).f1.f4.f0))).setCell ⟨m0, 6, none⟩ (.int .i64 ((rd_T32 l0_2 a0).f1.f4.f1))) ?_; intro J4 hw; replace HO_5 := gNw (fun k_ => (n0 k_ ∨ w.heap.size ≤ k_) ∧ k_ ≠ u0 ∧ k_ ≠ m0) HO_5 hw; replace HO_9 := gVw (fun k_ => (n0 k_ ∨ w.heap.size ≤ k_) ∧ some k_ ≠ (u5 : Value).ownBlock ∧ k_ ≠ u0 ∧ k_ ≠ m0) HO_9 hw; replace HO_127002 := gVw (fun k_ => (n0 k_ ∨ w.heap.size ≤ k_) ∧ some k_ ≠ (u5 : Value).ownBlock ∧ k_ ≠ u0 ∧ k_ ≠ m0) HO_127002 hw; replace z0 := gVw (fun k_ => (n0 k_ ∨ w.heap.size ≤ k_) ∧ some k_ ≠ (u5 : Value).ownBlock ∧ k_ ≠ u0 ∧ k_ ≠ m0) z0 hw; replace o0 := gVw (fun k_ => (n0 k_ ∨ w.heap.size ≤ k_) ∧ some k_ ≠ (u5 : Value).ownBlock ∧ k_ ≠ u0 ∧ k_ ≠ m0) o0 hw; replace A0 := sB A0 hw; replace W0 := sP #[.string ((rd_T32 l0_2 a0).f0), .int .i64 ((rd_T32 l0_2 a0).f1.f0), .int .i64 ((rd_T32 l0_2 a0).f1.f1), .slice C1 ((rd_T32 l0_2 a0).f1.f2).length N1, .slice L1 ((rd_T32 l0_2 a0).f1.f3).length i1, .int .i64 ((rd_T32 l0_2 a0).f1.f4.f0), .int .i64 ((rd_T32 l0_2 a0).f1.f4.f1)] W0 hw; replace HB := sH HB hw; clear hw; obtain ⟨_, _, _, _, _, _, _, _, _, _, _, _, _, _⟩ := bx7 W0) | ((with_reducible refine gate_builtin (b := .append) (xs := #[.tmp 20, .tmp 22]) rfl ?_); at_builtin; refine Kd.N_append k32 (w0 := w) w.heap.size rfl (.tmp 20) (.tmp 22) 22 32 (.agg #[(.string ⟨#[]⟩), (.int .i64 0), (.int .i64 0), (.slice none 0 0), (.slice none 0 0), (.int .i64 0), (.int .i64 0)]) 96 rfl Tryz.underlying22 info32 rfl (by decide) (by omega) u5 Z1 (⟨(rd_T32 l0_2 a0).f0, (⟨(rd_T32 l0_2 a0).f1.f0, (rd_T32 l0_2 a0).f1.f1, (rd_T32 l0_2 a0).f1.f2, (rd_T32 l0_2 a0).f1.f3, (⟨(rd_T32 l0_2 a0).f1.f4.f0, (rd_T32 l0_2 a0).f1.f4.f1⟩ : S28)⟩ : S30)⟩ : S32) [.string ((rd_T32 l0_2 a0).f0), .int .i64 ((rd_T32 l0_2 a0).f1.f0), .int .i64 ((rd_T32 l0_2 a0).f1.f1), .slice C1 ((rd_T32 l0_2 a0).f1.f2).length N1, .slice L1 ((rd_T32 l0_2 a0).f1.f3).length i1, .int .i64 ((rd_T32 l0_2 a0).f1.f4.f0), .int .i64 ((rd_T32 l0_2 a0).f1.f4.f1)] (fun k_ => (n0 k_ ∨ w.heap.size ≤ k_) ∧ k_ ≠ u0 ∧ k_ ≠ m0) (fun k_ => ((fun k_ => (n0 k_ ∨ w.heap.size ≤ k_) ∧ k_ ≠ u0 ∧ k_ ≠ m0)) k_ ∧ some k_ ≠ (u5 : Value).ownBlock) rfl rfl ?aP (fun _ hk => hk) ?aF ?aO ?aB ?aS ?aL ?_; (case aP => exact (k32_mkF _ _ (⟨(rd_T32 l0_2 a0).f0, (⟨(rd_T32 l0_2 a0).f1.f0, (rd_T32 l0_2 a0).f1.f1, (rd_T32 l0_2 a0).f1.f2, (rd_T32 l0_2 a0).f1.f3, (⟨(rd_T32 l0_2 a0).f1.f4.f0, (rd_T32 l0_2 a0).f1.f4.f1⟩ : S28)⟩ : S30)⟩ : S32) (Kd.V_reads' (Kd.V_mono (ok' := (fun k_ => ((fun k_ => (n0 k_ ∨ w.heap.size ≤ k_) ∧ k_ ≠ u0 ∧ k_ ≠ m0)) k_ ∧ some k_ ≠ (u5 : Value).ownBlock)) (z0.out) (fun k_ hk => ⟨⟨hk.1, ⟨hk.2.2.1, hk.2.2.2⟩⟩, hk.2.1⟩))).2.1 (Kd.V_F (Kd.V_mono (ok' := (fun k_ => ((fun k_ => (n0 k_ ∨ w.heap.size ≤ k_) ∧ k_ ≠ u0 ∧ k_ ≠ m0)) k_ ∧ some k_ ≠ (u5 : Value).ownBlock)) (z0.out) (fun k_ hk => ⟨⟨hk.1, ⟨hk.2.2.1, hk.2.2.2⟩⟩, hk.2.1⟩))) (Kd.V_reads' (Kd.V_mono (ok' := (fun k_ => ((fun k_ => (n0 k_ ∨ w.heap.size ≤ k_) ∧ k_ ≠ u0 ∧ k_ ≠ m0)) k_ ∧ some k_ ≠ (u5 : Value).ownBlock)) (o0.out) (fun k_ hk => ⟨⟨hk.1, ⟨hk.2.2.1, hk.2.2.2⟩⟩, hk.2.1⟩))).2.1 (Kd.V_F (Kd.V_mono (ok' := (fun k_ => ((fun k_ => (n0 k_ ∨ w.heap.size ≤ k_) ∧ k_ ≠ u0 ∧ k_ ≠ m0)) k_ ∧ some k_ ≠ (u5 : Value).ownBlock)) (o0.out) (fun k_ hk => ⟨⟨hk.1, ⟨hk.2.2.1, hk.2.2.2⟩⟩, hk.2.1⟩))))); (case aB => exact (bh HB)); (case aF => exact (fun k_ hk => ⟨(.inr (Nat.le_trans (below_size (bh HB)) hk)), gFr A0 k_ hk, gFr W0 k_ hk⟩)); (case aO => exact (hN HO_5)); (case aS => exact (below_size (bh HB))); (case aL => have := Q3.out; omega); intro m4 I4 ho hb hg hat; rw [← u3.out] at ho; replace HO_9 := am_ (Kd.V_afterv (ok := (fun k_ => (n0 k_ ∨ w.heap.size ≤ k_) ∧ k_ ≠ u0 ∧ k_ ≠ m0)) (gV HO_9) hg hat); replace HO_127002 := am_ (Kd.V_afterv (ok := (fun k_ => (n0 k_ ∨ w.heap.size ≤ k_) ∧ k_ ≠ u0 ∧ k_ ≠ m0)) (gV HO_127002) hg hat); replace A0 := tBg A0 hg (Kd.N_ne HO_5.out A0.out (by decide)); replace z0 := am_ (Kd.V_afterv (ok := (fun k_ => (n0 k_ ∨ w.heap.size ≤ k_) ∧ k_ ≠ u0 ∧ k_ ≠ m0)) (gV z0) hg hat); replace o0 := am_ (Kd.V_afterv (ok := (fun k_ => (n0 k_ ∨ w.heap.size ≤ k_) ∧ k_ ≠ u0 ∧ k_ ≠ m0)) (gV o0) hg hat); replace W0 := tBg W0 hg (Kd.N_away HO_5.out (fun _ hk => hk.2.2)); replace HB := am_ hb; have l3 := am_ (ho); clear HO_5 ho hb hg hat))
     go_roundg k1
     case measure => have := L3.out; omega
     case rel => exact ⟨(I3), (wrap64 (a0 + 1)), fr, H', kS L3, ⟨gN l3⟩, ⟨gV HO_9⟩, ⟨gV HO_127002⟩, ⟨gB A0⟩, ⟨bh HB⟩⟩
    rw [if_neg c8] at H
    have Z3 : (((rd_T32 l0_2 a0).f1.f1) == a1) = false := beq_eq_false_iff_ne.mpr c8
    have W3 : (((rd_T32 l0_2 a0).f1.f1) != a1) = true := bne_iff_ne.mpr c8
    have H' := am_ H
    clear H
    have D1 : 0 ≤ (a0 : Int) := dt
    have Q1 : a0 < (l0_2.length : Int) := dt
    obtain ⟨k3, C1, N1, L1, i1, i3, V2, L2, N2, P1, O1, b3, Z2, Y0, V0, X0, U0⟩ := at_T32 (Kd.V_reads' HO_9.out).2.2 a0 D1 Q1
    cases i3
    obtain ⟨D3, X1, V1, O0⟩ := Kd.V_get HO_9.out z32 a0 D1 (by first | exact Q1 | exact dt | (have e_ := (Kd.V_reads' HO_9.out).1; omega))
    obtain ⟨Q2, Y2, D2, a3, rfl, I0, L0, M0, N0⟩ := k32_openF V1
    have E0 := O0 3 _ rfl
    rw [add_field _ _ 3 (by omega)] at E0
    replace E0 := Option.some.inj (E0.symm.trans P1)
    injection E0 with hva_ hvn_ hvc_
    rw [hva_] at L0
    rw [hvc_] at I0
    have z0 := am_ (show Kd.V k107 107 _ w.heap.size _ _ ((rd_T32 l0_2 a0).f1.f2) from Kd.V_mk I0 L0)
    clear hva_ hvn_ hvc_ L0 I0
    have C0 := O0 4 _ rfl
    rw [add_field _ _ 4 (by omega)] at C0
    replace C0 := Option.some.inj (C0.symm.trans O1)
    injection C0 with hva_ hvn_ hvc_
    rw [hva_] at N0
    rw [hvc_] at M0
    have o0 := am_ (show Kd.V Kd.string 9 _ w.heap.size _ _ ((rd_T32 l0_2 a0).f1.f3) from Kd.V_mk M0 N0)
    clear hva_ hvn_ hvc_ N0 M0 O0 X1
    have P0 := am_ V0
    have C2 := am_ Y0
    clear V0 Y0
    have Q0 := am_ U0
    have J2 := am_ X0
    clear U0 X0
    replace D1 := eq_true D1
    replace Q1 := eq_true Q1
    go_wp2_with (first | ((with_reducible refine gd_ 7 ?_); refine be_ 7 #[.string (⟨#[]⟩ : ByteArray), .int .i64 0, .int .i64 0, .slice none 0 0, .slice none 0 0, .int .i64 0, .int .i64 0] 32 ?_; intro m0 hg w16 hbox hb; replace HO_5 := tNe HO_5 hg hb; replace HO_9 := tVe HO_9 hg hb; replace HO_127002 := tVe HO_127002 hg hb; replace z0 := tVe z0 hg hb; replace o0 := tVe o0 hg hb; replace P0 := tCb P0 hb; replace Q0 := tCb Q0 hb; have W0 := am_ hbox; have C3 := tG HB hg; have J3 := tG HB hg; replace HB := tHb HB hb; obtain ⟨i2, Z0⟩ := tN A0 hg; replace A0 := tBb A0 hb; clear hb hbox hg; obtain ⟨_, _⟩ := n2 Z0; obtain ⟨_, _, _, _, _, _, _, _, _, _, _, _, _, _⟩ := bx7 W0))
    go_roundg k1
    case measure => have := L3.out; omega
    case rel => exact ⟨(Z1), (wrap64 (a0 + 1)), fr, H', kS L3, ⟨gN HO_5⟩, ⟨gV HO_9⟩, ⟨gV HO_127002⟩, ⟨gB A0⟩, ⟨bh HB⟩⟩
   rw [if_neg c5] at H
   have N3 : decide (a0 < (l0_2.length : Int)) = false := decide_eq_false c5
   clear c5
   obtain rfl := Option.some.inj H
   go_wp2
   go_ret
   exact ⟨_, fe, gN HO_5, bh HB⟩

theorem may_is (a b : Int) : G8.f a b = some (decide (Gm.Ok (a, b))) := by
 have e : Gm.Ok (a, b) ↔ 0 ≤ a ∧ a < 10007 ∧ 0 ≤ b ∧ b < 10007 := Iff.rfl
 unfold G8.f
 by_cases h1 : a ≥ 0
 ·
  by_cases h2 : a < 10007
  ·
   by_cases h3 : b ≥ 0
   ·
    rw [if_pos h1, if_pos h2, if_pos h3, Option.some.injEq, decide_eq_decide, e]
    omega
   rw [if_pos h1, if_pos h2, if_neg h3, decide_eq_false (fun h => by rw [e] at h; omega)]
  rw [if_pos h1, if_neg h2, decide_eq_false (fun h => by rw [e] at h; omega)]
 rw [if_neg h1, decide_eq_false (fun h => by rw [e] at h; omega)]
theorem inv_is (x : Gm.E) : ∃ e, H4.f x.1 x.2 = some ((Fl.invE x).1, (Fl.invE x).2, e) := by
 unfold H4.f Fl.invE
 rw [may_is, Option.bind_some]
 by_cases h : Gm.Ok x
 ·
  rw [if_pos (by simpa using h), if_pos h]
  by_cases h0 : x = (0, 0)
  ·
   rw [if_pos h0, if_pos (by rw [h0]; rfl)]
   exact ⟨1, rfl⟩
  have : ¬ (x.1 == 0 && (x.2 == 0)) = true := by
   intro h1
   simp only [Bool.and_eq_true, beq_iff_eq] at h1
   exact h0 (Prod.ext h1.1 h1.2)
  rw [if_neg this, if_neg h0]
  unfold Gs.f Fl.powE
  rw [if_pos (by decide), if_pos h]
  exact ⟨0, rfl⟩
 rw [if_neg (by simpa using h), if_neg h]
 exact ⟨1, rfl⟩
theorem weight_l0 (l : List S76) (own : Int) (k : Nat) (hl : l.length ≤ 9223372036854775807) : ∀ (r i : Nat) (o : Gm.E), i + r = l.length →
  G6.l0 (r + 1) l (k : Int) (l.length : Int) (i : Int) o.1 o.2 own 0 = some (Fl.wtFrom (eS l) own k r i o)
 | 0, i, o, h => by
  rw [G6.l0, if_neg (by omega)]
  rfl
 | r + 1, i, o, h => by
  have hw : wrap64 ((i : Int) + 1) = ((i + 1 : Nat) : Int) := by rw [Go.IntWalk.wrap64_in _ (by omega)]; omega
  have e2 : (rd_T76 l (i : Int)).f0 = ((eS l).getD i (0, (0, 0))).1 := by
   unfold eS rd_T76
   simp [List.getElem?_eq_getElem (show i < l.length by omega)]
  rw [G6.l0, if_pos (by omega), hw, Fl.wtFrom]
  by_cases hk : i = k
  ·
   rw [if_pos (by omega), if_pos hk]
   exact weight_l0 l own k hl r (i + 1) o (by omega)
  rw [if_neg (by omega), if_neg hk, if_pos (by omega), if_pos (by omega), e2]
  generalize ((eS l).getD i (0, (0, 0))).1 = id
  obtain ⟨e, he⟩ := inv_is (Fl.opE Gm.sub (id, 0) (own, 0))
  unfold H6.f Gt.f
  simp only [Option.bind_some]
  rw [he]
  simp only [Option.bind_some]
  exact weight_l0 l own k hl r (i + 1) _ (by omega)
theorem weight_is (l : List S76) (k : Nat) (hl : l.length ≤ 9223372036854775807) (hk : k < l.length) : G6.f (l.length + 1) l (k : Int) = some (Fl.wtE (eS l) k) := by
 unfold G6.f
 have e2 : (rd_T76 l (k : Int)).f0 = ((eS l).getD k (0, (0, 0))).1 := by
  unfold eS rd_T76
  simp [List.getElem?_eq_getElem hk]
 rw [if_pos (by omega), if_pos (by omega), e2]
 have := weight_l0 l ((eS l).getD k (0, (0, 0))).1 k hl l.length 0 (1, 0) (by omega)
 unfold Fl.wtE
 rw [eS_length]
 exact this
def Gx.f (l0 : List (S76)) : Option (Int × Int × Int) := some ((Fl.openE (eS l0) (Fl.wtE (eS l0))).1.1, (Fl.openE (eS l0) (Fl.wtE (eS l0))).1.2, (Fl.openE (eS l0) (Fl.wtE (eS l0))).2)
theorem Gx.calls (A0 : Option Addr) (c0 : Nat) (l0 : List (S76)) (r1 : Int) (r2 : Int) (r3 : Int) (w : World) (a0 : Kd.C k76 w A0 l0.length l0) (m0 : l0.length ≤ c0) (h : Gx.f l0 = some (r1, r2, r3)) :
  Calls Tryz.prog 50 #[.slice A0 l0.length c0] w fun e w' => e = .returned (.tuple #[.agg #[.int .i64 r1, .int .i64 r2], .int .i64 r3]) ∧ Below w.heap.size w w' := by
 have e := Option.some.inj h
 simp only [Prod.mk.injEq] at e
 obtain ⟨e1, e2, e3⟩ := e
 have hl := Kd.C_max a0
 have c := Fl.open_c A0 c0 (eS l0) (Fl.wtE (eS l0)) w (rowS_of a0) (by rw [eS_length]; exact hl) (fun n hn W hB => by
  rw [eS_length] at hn ⊢
  exact G6.calls (l0.length + 1) A0 c0 l0 n _ _ W (Kd.C_below a0 hB) m0 (weight_is l0 n hl hn))
 rw [e1, e2, e3, eS_length] at c
 exact c

def Gw.f (a0_0 : Int) (a0_1 : Int) (a1 : Int) : Option (Int) := (Fx.f a1).bind fun m0 => (if m0 = true then ((G8.f a0_0 a0_1).bind fun a0 => (if a0 = true then (if a1 = 0 then (none) else (some (wrap64 (1 + (Int.tmod (wrap64 ((wrap64 (a0_0 * 10007)) + a0_1)) a1))))) else (some 0))) else (some 0))
set_option maxHeartbeats 8000000 in
set_option maxRecDepth 100000 in
theorem Gw.calls (a0_0 : Int) (a0_1 : Int) (a1 : Int) (r : Int) (w : World) (h : Gw.f a0_0 a0_1 a1 = some r) :
  Calls Tryz.prog 51 #[.agg #[.int .i64 a0_0, .int .i64 a0_1], .int .i64 a1] w fun e w' => e = .returned (.int .i64 r) ∧ Below w.heap.size w w' := by
 have I0 := Tryz.underlying28
 have HB := am_ (Below.refl w.heap.size w)
 have H : ((Fx.f a1).bind fun u0 => (if u0 = true then ((G8.f a0_0 a0_1).bind fun z0 => (if z0 = true then (if a1 = 0 then (none) else (some (wrap64 (1 + (Int.tmod (wrap64 ((wrap64 (a0_0 * 10007)) + a0_1)) a1))))) else (some 0))) else (some 0))) = some r := h
 clear h
 replace H := Option.bind_eq_some_iff.mp H
 obtain ⟨u0, C0, H⟩ := H
 try dsimp only at H
 have A3 := am_ C0
 clear C0
 by_cases c4 : u0 = true
 ·
  subst c4
  rw [if_pos rfl] at H
  replace H := Option.bind_eq_some_iff.mp H
  obtain ⟨z0, A0, H⟩ := H
  try dsimp only at H
  have A5 := am_ A0
  clear A0
  by_cases c6 : z0 = true
  ·
   subst c6
   rw [if_pos rfl] at H
   by_cases c7 : a1 = 0
   ·
    rw [if_pos c7] at H
    exact absurd H (by simp)
   rw [if_neg c7] at H
   have L0 : (a1 == 0) = false := beq_eq_false_iff_ne.mpr c7
   have E0 : (a1 != 0) = true := bne_iff_ne.mpr c7
   obtain rfl := Option.some.inj H
   go_enter Tryz.func51, Tryz.ntmps51
   go_wp2_with (first | ((with_reducible refine gd_ 2 ?_); refine be_ 2 #[.int .i64 a0_0, .int .i64 a0_1] 28 ?_; intro n0 hg w8 hbox hb; have a0 := am_ hbox; have o0 := tG HB hg; have m0 := tG HB hg; replace HB := tHb HB hb; clear hb hbox hg) | ((with_reducible refine gate_callee (f := 49) rfl ?_); refine gl_ (some 6) Tryz.func49 #[.int .i64 a1] ?_; (with_reducible refine (Fx.calls a1 true _ A3.out).mono ?_); rintro e w' ⟨rfl, ⟨nd, rfl⟩⟩; refine ⟨_, rfl, ?_⟩; obtain ⟨_, _, _, _⟩ := bx2 a0) | (go_at_call 69; (with_reducible refine (G8.calls a0_0 a0_1 true _ A5.out).mono ?_); rintro e P0 ⟨rfl, hb⟩; replace a0 := tBb a0 hb; replace HB := tHb HB hb; (try clear hb); obtain ⟨_, _, _, _⟩ := bx2 a0))
   go_ret
   exact ⟨fe, bh HB⟩
  replace c6 := Bool.eq_false_iff.mpr c6
  subst c6
  rw [if_neg (show ¬ (false = true) by decide)] at H
  obtain rfl := Option.some.inj H
  go_enter Tryz.func51, Tryz.ntmps51
  go_wp2_with (first | ((with_reducible refine gd_ 2 ?_); refine be_ 2 #[.int .i64 a0_0, .int .i64 a0_1] 28 ?_; intro n0 hg M0 hbox hb; have a0 := am_ hbox; have o0 := tG HB hg; have m0 := tG HB hg; replace HB := tHb HB hb; clear hb hbox hg) | ((with_reducible refine gate_callee (f := 49) rfl ?_); refine gl_ (some 6) Tryz.func49 #[.int .i64 a1] ?_; (with_reducible refine (Fx.calls a1 true _ A3.out).mono ?_); rintro e w' ⟨rfl, ⟨nd, rfl⟩⟩; refine ⟨_, rfl, ?_⟩; obtain ⟨_, _, _, _⟩ := bx2 a0) | (go_at_call 69; (with_reducible refine (G8.calls a0_0 a0_1 false _ A5.out).mono ?_); rintro e N0 ⟨rfl, hb⟩; replace a0 := tBb a0 hb; replace HB := tHb HB hb; (try clear hb)))
  go_ret
  exact ⟨fe, bh HB⟩
 replace c4 := Bool.eq_false_iff.mpr c4
 subst c4
 rw [if_neg (show ¬ (false = true) by decide)] at H
 obtain rfl := Option.some.inj H
 go_enter Tryz.func51, Tryz.ntmps51
 go_wp2_with (first | ((with_reducible refine gd_ 2 ?_); refine be_ 2 #[.int .i64 a0_0, .int .i64 a0_1] 28 ?_; intro n0 hg O0 hbox hb; have a0 := am_ hbox; have o0 := tG HB hg; have m0 := tG HB hg; replace HB := tHb HB hb; clear hb hbox hg) | ((with_reducible refine gate_callee (f := 49) rfl ?_); refine gl_ (some 6) Tryz.func49 #[.int .i64 a1] ?_; (with_reducible refine (Fx.calls a1 false _ A3.out).mono ?_); rintro e w' ⟨rfl, ⟨nd, rfl⟩⟩; refine ⟨_, rfl, ?_⟩))
 go_ret
 exact ⟨fe, bh HB⟩

mutual
def F8.j0 : Nat → Int → Bool → Int → Int → List (S32) → Option (Int × Int)
 | 0, _, _, _, _, _ => none
 | k + 1, x1, C0, a0, m0, n0 => if C0 = true then (some (0, 1)) else ((Fw.f k a0 m0 n0 (wrap64 (3 * x1))).bind fun u0 => ((G7.f a0).bind fun A0 => (if (u0.length : Int) < A0 then (some (0, 12)) else ((G7.f a0).bind fun o0 => (if 0 ≤ o0 then (if o0 ≤ (u0.length : Int) then ((some (u0.take (o0 : Int).toNat : List (S32))).bind fun z0 => (F8.l0 k ([] : List (S76)) z0 (z0.length : Int) 0 a0 m0 n0)) else (none)) else (none))))))
def F8.l0 : Nat → List (S76) → List (S32) → Int → Int → Int → Int → List (S32) → Option (Int × Int)
 | 0, _, _, _, _, _, _, _ => none
 | k + 1, x7, z0, C0, u0, a0, n0, o0 => if u0 < C0 then (if 0 ≤ u0 then (if u0 < (z0.length : Int) then (if x7.length < 5864062014805 then (F8.l0 k (x7 ++ [(⟨(rd_T32 z0 u0).f1.f0, (⟨(rd_T32 z0 u0).f1.f4.f0, (rd_T32 z0 u0).f1.f4.f1⟩ : S28)⟩ : S76)]) z0 C0 (wrap64 (u0 + 1)) a0 n0 o0) else (none)) else (none)) else (none)) else ((Gx.f x7).bind fun m0 => (if m0.2.2 = 0 then ((Gw.f m0.1 m0.2.1 a0).bind fun A0 => (some (A0, 0))) else (some (0, m0.2.2))))
end
def F8.f (k : Nat) (a0_0 : Int) (a0_1 : Int) (l0_2 : List (S32)) (a1 : Int) : Option (Int × Int) := if a1 < 1 then (F8.j0 k a1 true a0_0 a0_1 l0_2) else (if a1 > 1048576 then (F8.j0 k a1 true a0_0 a0_1 l0_2) else ((Fx.f a0_0).bind fun a0 => (F8.j0 k a1 (!a0) a0_0 a0_1 l0_2)))
set_option maxHeartbeats 8000000 in
set_option maxRecDepth 100000 in
theorem F8.calls (k : Nat) (a0_0 : Int) (a0_1 : Int) (A0_2 : Option Addr) (c0_2 : Nat) (l0_2 : List (S32)) (a1 : Int) (r1 : Int) (r2 : Int) (w : World) (hr0_2 : Kd.C k32 w A0_2 l0_2.length l0_2) (hc0_2 : l0_2.length ≤ c0_2) (h : F8.f k a0_0 a0_1 l0_2 a1 = some (r1, r2)) :
  Calls Tryz.prog 27 #[.agg #[.int .i64 a0_0, .int .i64 a0_1, .slice A0_2 l0_2.length c0_2], .int .i64 a1] w fun e w' => e = .returned (.tuple #[.int .i64 r1, .int .i64 r2]) ∧ Below w.heap.size w w' := by
 have V6 := Tryz.underlying24
 have W6 := Tryz.underlying32
 have L6 := Tryz.underlying28
 have P6 := Tryz.underlying76
 have L3 := am_ hr0_2
 have C3 := am_ hc0_2
 clear hr0_2 hc0_2
 have HB := am_ (Below.refl w.heap.size w)
 have H : (if a1 < 1 then (F8.j0 k a1 true a0_0 a0_1 l0_2) else (if a1 > 1048576 then (F8.j0 k a1 true a0_0 a0_1 l0_2) else ((Fx.f a0_0).bind fun i3 => (F8.j0 k a1 (!i3) a0_0 a0_1 l0_2)))) = some (r1, r2) := h
 clear h
 have U5 := am_ H
 clear H
 go_enter Tryz.func27, Tryz.ntmps27
 go_upto_region 1 with (first | ((with_reducible refine gd_ 2 ?_); refine be_ 2 #[.int .i64 a0_0, .int .i64 a0_1, .slice A0_2 l0_2.length c0_2] 24 ?_; intro z0 hg w4 hbox hb; have m0 := am_ hbox; have I3 := tG HB hg; have r6 := tG HB hg; replace HB := tHb HB hb; clear hb hbox hg))
 (try simp only [Act.put, List.setIfInBounds_toArray, List.set_cons_zero, List.set_cons_succ])
 go_cut [23] (fun R6 wc => ∃ (kq : Nat) (N1 : Bool), R6 = .bool N1 ∧ Asc (F8.j0 kq a1 N1 a0_0 a0_1 l0_2 = some (r1, r2)) ∧ Asc (kq ≤ k) ∧ Asc (wc.heap[z0]? = some (.cells #[.int .i64 a0_0, .int .i64 a0_1, (.slice A0_2 l0_2.length c0_2)] 24 (0, 0))) ∧ Asc (Below w.heap.size w wc))
 case first =>
  have H := U5.out
  clear U5
  by_cases c5 : a1 < 1
  ·
   rw [if_pos c5] at H
   have J2 : decide (a1 < 1) = true := decide_eq_true c5
   clear c5
   (first | rw [J2] | (simp only [i64_w, i32_w]; rw [J2]) | skip)
   have H' := am_ H
   clear H
   go_wp2
   go_meet
   case rel => exact ⟨_, (true), fr, H', ⟨by first | omega | exact Nat.le_refl _⟩, ⟨gB m0⟩, ⟨bh HB⟩⟩
  rw [if_neg c5] at H
  have J2 : decide (a1 < 1) = false := decide_eq_false c5
  clear c5
  (first | rw [J2] | (simp only [i64_w, i32_w]; rw [J2]) | skip)
  by_cases c6 : a1 > 1048576
  ·
   rw [if_pos c6] at H
   have S5 : decide (1048576 < a1) = true := decide_eq_true c6
   clear c6
   have H' := am_ H
   clear H
   go_wp2
   go_meet
   case rel => exact ⟨_, (true), fr, H', ⟨by first | omega | exact Nat.le_refl _⟩, ⟨gB m0⟩, ⟨bh HB⟩⟩
  rw [if_neg c6] at H
  have S5 : decide (1048576 < a1) = false := decide_eq_false c6
  clear c6
  replace H := Option.bind_eq_some_iff.mp H
  obtain ⟨i3, p6, H⟩ := H
  try dsimp only at H
  have A7 := am_ p6
  clear p6
  have H' := am_ H
  clear H
  obtain ⟨_, _, _, _, _, _⟩ := bx3 m0
  go_wp2_with (first | (go_at_call 49; (with_reducible refine (Fx.calls a0_0 i3 _ A7.out).mono ?_); rintro e w' ⟨rfl, ⟨nd, rfl⟩⟩))
  go_meet
  case rel => exact ⟨_, (!i3), fr, H', ⟨by first | omega | exact Nat.le_refl _⟩, ⟨gB m0⟩, ⟨bh HB⟩⟩
 case rest =>
  clear U5
  obtain ⟨kq, N1, rfl, HA, m6, m0, HB⟩ := hcut
  cases kq with
  | zero => exact absurd HA.out (by simp [F8.j0])
  | succ D4 =>
   have H := HA.out
   clear HA
   simp only [F8.j0] at H
   by_cases c9 : N1 = true
   ·
    subst c9
    rw [if_pos rfl] at H
    simp only [Option.some.injEq, Prod.mk.injEq] at H
    obtain ⟨rfl, rfl⟩ := H
    go_wp2
    go_ret2
    exact ⟨fe, bh HB⟩
   replace c9 := Bool.eq_false_iff.mpr c9
   subst c9
   rw [if_neg (show ¬ (false = true) by decide)] at H
   replace H := Option.bind_eq_some_iff.mp H
   obtain ⟨A0, I4, H⟩ := H
   try dsimp only at H
   have s6 := am_ I4
   clear I4
   replace H := Option.bind_eq_some_iff.mp H
   obtain ⟨L2, k4, H⟩ := H
   try dsimp only at H
   have K6 := am_ k4
   clear k4
   by_cases Y3 : (A0.length : Int) < L2
   ·
    rw [if_pos Y3] at H
    have N3 : decide ((A0.length : Int) < L2) = true := decide_eq_true Y3
    clear Y3
    simp only [Option.some.injEq, Prod.mk.injEq] at H
    obtain ⟨rfl, rfl⟩ := H
    obtain ⟨_, _, _, _, _, _⟩ := bx3 m0
    go_wp2_with (first | ((with_reducible refine gate_callee (f := 34) rfl ?_); refine gl_ (some 27) Tryz.func34 #[.agg #[.int .i64 a0_0, .int .i64 a0_1, .slice A0_2 l0_2.length c0_2], .int .i64 (wrap64 (3 * a1))] ?_; (with_reducible refine (Fw.calls D4 a0_0 a0_1 (fun k_ => k_ < w.heap.size) _ _ l0_2 (wrap64 (3 * a1)) A0 _ ?M0 s6.out).mono ?_); (case M0 => exact Kd.V_mk C3.out (Kd.F_below (Kd.C_F k32_heap L3.out) (bh HB))); rintro e Z6 ⟨j6, rfl, C4, hb⟩; refine ⟨_, rfl, ?_⟩; have i1 := am_ (Kd.N_lower (Kd.N_mono (ok' := fun k_ => k_ ≠ z0) C4 (fun k_ hk_ => oe I3 m0 hk_)) (below_size (bh HB))); replace m0 := tBb m0 hb; replace HB := tHb HB hb; (try clear hb C4); obtain ⟨U6, S6, k6⟩ := Kd.N_slice i1.out; subst k6; obtain ⟨_, _, _, _, _, _⟩ := bx3 m0) | ((with_reducible refine gate_callee (f := 31) rfl ?_); refine gl_ (some 32) Tryz.func31 #[.int .i64 a0_0] ?_; (with_reducible refine (G7.calls a0_0 L2 _ K6.out).mono ?_); rintro e w' ⟨rfl, ⟨nd, rfl⟩⟩; refine ⟨_, rfl, ?_⟩))
    go_ret2
    exact ⟨fe, bh HB⟩
   rw [if_neg Y3] at H
   have N3 : decide ((A0.length : Int) < L2) = false := decide_eq_false Y3
   clear Y3
   replace H := Option.bind_eq_some_iff.mp H
   obtain ⟨P0, Q4, H⟩ := H
   try dsimp only at H
   have Q6 := am_ Q4
   clear Q4
   by_cases N4 : 0 ≤ P0
   ·
    rw [if_pos N4] at H
    have W4 := eq_true N4
    have E4 : decide (0 ≤ P0) = true := decide_eq_true N4
    clear N4
    revert H
    refine gi' (fun Y5 H => ?_)
    have J4 := eq_true Y5
    have P4 : decide (P0 ≤ (A0.length : Int)) = true := decide_eq_true Y5
    clear Y5
    obtain ⟨n0, Y0⟩ : ∃ y_ : List (S32), y_ = (A0.take (P0 : Int).toNat) := ⟨_, rfl⟩
    replace H : (F8.l0 D4 ([] : List (S76)) n0 (n0.length : Int) 0 a0_0 a0_1 l0_2) = some (r1, r2) := by first | (rw [Y0]; with_reducible exact H) | (have H := (Option.bind_some _ _).symm.trans H; first | (rw [Y0]; with_reducible exact H) | with_reducible exact H) | with_reducible exact H | (rw [Y0]; exact H) | exact H
    have J3 := am_ Y0
    clear Y0
    have H' := am_ H
    clear H
    obtain ⟨b5, V4, L4, R4, M4, O4⟩ := bx3 m0
    go_wp2_with (first | ((with_reducible refine gate_callee (f := 34) rfl ?_); refine gl_ (some 27) Tryz.func34 #[.agg #[.int .i64 a0_0, .int .i64 a0_1, .slice A0_2 l0_2.length c0_2], .int .i64 (wrap64 (3 * a1))] ?_; (with_reducible refine (Fw.calls D4 a0_0 a0_1 (fun k_ => k_ < w.heap.size) _ _ l0_2 (wrap64 (3 * a1)) A0 _ ?M0 s6.out).mono ?_); (case M0 => exact Kd.V_mk C3.out (Kd.F_below (Kd.C_F k32_heap L3.out) (bh HB))); rintro e j7 ⟨j6, rfl, C4, hb⟩; refine ⟨_, rfl, ?_⟩; have i1 := am_ (Kd.N_lower (Kd.N_mono (ok' := fun k_ => k_ ≠ z0) C4 (fun k_ hk_ => oe I3 m0 hk_)) (below_size (bh HB))); replace m0 := tBb m0 hb; replace HB := tHb HB hb; (try clear hb C4); obtain ⟨m3, a3, R5⟩ := Kd.N_slice i1.out; subst R5; obtain ⟨k5, s4, Z4, A5, i5, i4⟩ := bx3 m0) | ((with_reducible refine gate_callee (f := 31) rfl ?_); refine gl_ (some 32) Tryz.func31 #[.int .i64 a0_0] ?_; (with_reducible refine (G7.calls a0_0 L2 _ K6.out).mono ?_); rintro e w' ⟨rfl, ⟨nd, rfl⟩⟩; refine ⟨_, rfl, ?_⟩) | ((with_reducible refine gate_callee (f := 31) rfl ?_); refine gl_ (some 37) Tryz.func31 #[.int .i64 a0_0] ?_; (with_reducible refine (G7.calls a0_0 P0 _ Q6.out).mono ?_); rintro e w' ⟨rfl, ⟨nd, rfl⟩⟩; refine ⟨_, rfl, ?_⟩; have u4 : (P0 : Int) ≤ ((A0.length : Int) : Int) := dt; obtain ⟨M6, D3, _, X4, _⟩ := info_parts info32; have X1 : A0.length ≤ a3 := (Kd.N_reads' i1.out).2.1; have j5 : Kd.F k32 _ _ m3 A0.length A0 := (Kd.V_at (base := w.heap.size) (Kd.N_V i1.out)).2.2; have Q3 := cut_to (P := Tryz.prog) 22 32 .i64 Tryz.underlying22 D3 m3 A0.length a3 P0 (dt) u4 X1; have W3 := Kd.F_take (m := (P0 : Int).toNat) j5 (by omega); have S3 : n0.length = (P0 : Int).toNat := (by rw [J3.out, List.length_take]; omega); rw [← J3.out] at W3; rw [← S3] at Q3; have l4 := am_ (show Kd.V k32 32 _ w.heap.size _ (.slice m3 n0.length a3) n0 from Kd.V_mk (by omega) W3); have o6 := am_ (show n0.length ≤ a3 from by omega); clear W3 j5 X1 D3 X4; have X6 := am_ S3; clear S3; replace u4 := eq_true u4))
    go_loopg [7, 40] D4 (fun kq v7 Y6 w' => ∃ (U0 : List (S76)) (a0 : Int), Y6 = .int .i64 a0 ∧ Asc (F8.l0 kq U0 n0 (n0.length : Int) a0 a0_0 a0_1 l0_2 = some (r1, r2)) ∧ Asc (kq ≤ D4) ∧ Asc (Kd.R k76 76 w' w.heap.size (fun _ => True) v7 U0) ∧ Asc (Kd.V k32 32 w' w.heap.size (fun k_ => some k_ ≠ (v7 : Value).ownBlock ∧ k_ ≠ z0) (.slice m3 n0.length a3) n0) ∧ Asc (w'.heap[z0]? = some (.cells #[.int .i64 a0_0, .int .i64 a0_1, (.slice A0_2 l0_2.length c0_2)] 24 (0, 0))) ∧ Asc (Below w.heap.size w w'))
    case atStart => exact ⟨(([] : List (S76))), (0), fr, H', ⟨Nat.le_refl _⟩, ⟨kn⟩, ⟨gV l4⟩, ⟨gB m0⟩, ⟨bh HB⟩⟩
    case round =>
     clear H'
     try clear c9 N3 W4 E4 J4 P4 u4 b5 V4 L4 k5 s4 Z4 R4 M4 O4 A5 i5 i4 u4
     obtain ⟨U0, a0, rfl, HA, C6, HO_7, HO_38, m0, HB⟩ := hrel
     cases gk with
     | zero => exact absurd HA.out (by simp [F8.l0])
     | succ k2 =>
      have H := HA.out
      clear HA
      simp only [F8.l0] at H
      by_cases Z3 : a0 < (n0.length : Int)
      ·
       rw [if_pos Z3] at H
       have s5 : decide (a0 < (n0.length : Int)) = true := decide_eq_true Z3
       clear Z3
       revert H
       refine gi (fun D6 H => ?_)
       revert H
       refine gi (fun q6 H => ?_)
       revert H
       refine gi' (fun z6 H => ?_)
       have U4 := am_ z6
       clear z6
       obtain ⟨m4, X0⟩ : ∃ y_ : List (S76), y_ = (U0 ++ [(⟨(rd_T32 n0 a0).f1.f0, (⟨(rd_T32 n0 a0).f1.f4.f0, (rd_T32 n0 a0).f1.f4.f1⟩ : S28)⟩ : S76)]) := ⟨_, rfl⟩
       replace H : (F8.l0 k2 m4 n0 (n0.length : Int) (wrap64 (a0 + 1)) a0_0 a0_1 l0_2) = some (r1, r2) := by first | (rw [X0]; with_reducible exact H) | (have H := (Option.bind_some _ _).symm.trans H; first | (rw [X0]; with_reducible exact H) | with_reducible exact H) | with_reducible exact H | (rw [X0]; exact H) | exact H
       have S4 := am_ X0
       clear X0
       have H' := am_ H
       clear H
       have b3 : 0 ≤ (a0 : Int) := dt
       have l3 : a0 < (n0.length : Int) := dt
       obtain ⟨l6, Y2, V2, N2, Q2, b6, D5, C5, I5, k3, u3, K5, E5, U1, L1, Q1, Y1⟩ := at_T32 (Kd.V_reads' HO_38.out).2.2 a0 b3 l3
       cases b6
       obtain ⟨I6, U3, V3, D1⟩ := Kd.V_get HO_38.out z32 a0 b3 (by first | exact l3 | exact dt | (have e_ := (Kd.V_reads' HO_38.out).1; omega))
       obtain ⟨P5, M5, O5, N5, rfl, O0, V0, W0, Q0⟩ := k32_openF V3
       have C0 := D1 3 _ rfl
       rw [add_field _ _ 3 (by omega)] at C0
       replace C0 := Option.some.inj (C0.symm.trans k3)
       injection C0 with hva_ hvn_ hvc_
       rw [hva_] at V0
       rw [hvc_] at O0
       have L0 := am_ (show Kd.V k107 107 _ w.heap.size _ _ ((rd_T32 n0 a0).f1.f2) from Kd.V_mk O0 V0)
       clear hva_ hvn_ hvc_ V0 O0
       have E0 := D1 4 _ rfl
       rw [add_field _ _ 4 (by omega)] at E0
       replace E0 := Option.some.inj (E0.symm.trans u3)
       injection E0 with hva_ hvn_ hvc_
       rw [hva_] at Q0
       rw [hvc_] at W0
       have I0 := am_ (show Kd.V Kd.string 9 _ w.heap.size _ _ ((rd_T32 n0 a0).f1.f3) from Kd.V_mk W0 Q0)
       clear hva_ hvn_ hvc_ Q0 W0 D1 U3
       have P1 := am_ L1
       have L5 := am_ U1
       clear L1 U1
       have V1 := am_ Y1
       have J5 := am_ Q1
       clear Y1 Q1
       replace b3 := eq_true b3
       replace l3 := eq_true l3
       go_wp2_with (first | ((with_reducible refine gd_ 9 ?_); refine be_ 9 #[.string (⟨#[]⟩ : ByteArray), .int .i64 0, .int .i64 0, .slice none 0 0, .slice none 0 0, .int .i64 0, .int .i64 0] 32 ?_; intro o0 hg k7 hbox hb; replace HO_7 := tRb HO_7 hb; replace HO_38 := tVe HO_38 hg hb; replace L0 := tVe L0 hg hb; replace I0 := tVe I0 hg hb; replace P1 := tCb P1 hb; replace V1 := tCb V1 hb; have Z0 := am_ hbox; have A6 := tG HB hg; have J6 := tG HB hg; replace HB := tHb HB hb; obtain ⟨a4, i2⟩ := tN m0 hg; replace m0 := tBb m0 hb; clear hb hbox hg; obtain ⟨_, _⟩ := n2 i2; obtain ⟨_, _, _, _, _, _, _, _, _, _, _, _, _, _⟩ := bx7 Z0) | ((with_reducible refine gate_builtin (b := .append) (xs := #[.tmp 44, .tmp 52]) rfl ?_); at_builtin; refine Kd.R_append k76 (w0 := w) w.heap.size rfl (.tmp 44) (.tmp 52) 74 76 (.agg #[(.int .i64 0), (.int .i64 0), (.int .i64 0)]) 24 rfl Tryz.underlying74 info76 rfl (by decide) (by omega) u7 U0 (⟨(rd_T32 n0 a0).f1.f0, (⟨(rd_T32 n0 a0).f1.f4.f0, (rd_T32 n0 a0).f1.f4.f1⟩ : S28)⟩ : S76) [.int .i64 ((rd_T32 n0 a0).f1.f0), .int .i64 ((rd_T32 n0 a0).f1.f4.f0), .int .i64 ((rd_T32 n0 a0).f1.f4.f1)] (fun _ => True) (fun _ => False) rfl (by first | (go_simp; done) | (go_simp; rfl)) ?aP (fun _ hk => hk.elim) ?aF ?aO ?aB ?aS ?aL ?_; (case aP => exact k76_mkM _ _ _ (⟨(rd_T32 n0 a0).f1.f0, (⟨(rd_T32 n0 a0).f1.f4.f0, (rd_T32 n0 a0).f1.f4.f1⟩ : S28)⟩ : S76)); (case aB => exact (bh HB)); (case aF => exact (fun _ _ => trivial)); (case aO => exact (by (with_reducible repeat (first | apply Kd.R_alloc | apply Kd.R_drewN | apply Kd.R_drew)); exact Kd.R_mono (Kd.R_far (p := ⟨o0, 6, none⟩) (Kd.R_far (p := ⟨o0, 5, none⟩) (Kd.R_far (p := ⟨o0, 4, none⟩) (Kd.R_far (p := ⟨o0, 3, none⟩) (Kd.R_far (p := ⟨o0, 2, none⟩) (Kd.R_far (p := ⟨o0, 1, none⟩) (Kd.R_far (p := ⟨o0, 0, none⟩) (Kd.R_types HO_7.out Z0.out (by decide)) (fun _ hk => hk.2) (.string ((rd_T32 n0 a0).f0))) (fun _ hk => hk.2) (.int .i64 ((rd_T32 n0 a0).f1.f0))) (fun _ hk => hk.2) (.int .i64 ((rd_T32 n0 a0).f1.f1))) (fun _ hk => hk.2) (.slice Y2 ((rd_T32 n0 a0).f1.f2).length V2)) (fun _ hk => hk.2) (.slice N2 ((rd_T32 n0 a0).f1.f3).length Q2)) (fun _ hk => hk.2) (.int .i64 ((rd_T32 n0 a0).f1.f4.f0))) (fun _ hk => hk.2) (.int .i64 ((rd_T32 n0 a0).f1.f4.f1))) (fun _ hk => trivial))); (case aS => exact (below_size (bh HB))); (case aL => have := U4.out; omega); intro N6 a7 ho hb hg hat; rw [← S4.out] at ho; replace HO_38 := am_ (Kd.V_afterv (ok := (fun k_ => k_ ≠ z0 ∧ k_ ≠ o0)) (gV HO_38) hg hat); replace m0 := tBg m0 hg (Kd.R_ne HO_7.out m0.out (by decide)); replace L0 := am_ (Kd.V_afterv (ok := (fun k_ => k_ ≠ z0 ∧ k_ ≠ o0)) (gV L0) hg hat); replace I0 := am_ (Kd.V_afterv (ok := (fun k_ => k_ ≠ z0 ∧ k_ ≠ o0)) (gV I0) hg hat); replace Z0 := am_ (blk_grown (g := o0) (o := .cells #[.string ((rd_T32 n0 a0).f0), .int .i64 ((rd_T32 n0 a0).f1.f0), .int .i64 ((rd_T32 n0 a0).f1.f1), .slice Y2 ((rd_T32 n0 a0).f1.f2).length V2, .slice N2 ((rd_T32 n0 a0).f1.f3).length Q2, .int .i64 ((rd_T32 n0 a0).f1.f4.f0), .int .i64 ((rd_T32 n0 a0).f1.f4.f1)] 32 (0, 0)) (gP Z0 rfl) hg (Kd.R_ne HO_7.out Z0.out (by decide))); replace HB := am_ hb; have p5 := am_ (ho); clear HO_7 ho hb hg hat))
       go_roundg k2
       case measure => have := m6.out; have := C6.out; omega
       case rel => exact ⟨(m4), (wrap64 (a0 + 1)), fr, H', ⟨by have := m6.out; have := C6.out; omega⟩, ⟨hR p5⟩, ⟨gV HO_38⟩, ⟨gB m0⟩, ⟨bh HB⟩⟩
      rw [if_neg Z3] at H
      have s5 : decide (a0 < (n0.length : Int)) = false := decide_eq_false Z3
      clear Z3
      replace H := Option.bind_eq_some_iff.mp H
      obtain ⟨⟨C2, Z1, C1⟩, l5, H⟩ := H
      try dsimp only at H
      have E6 := am_ l5
      clear l5
      by_cases X3 : C1 = 0
      ·
       rw [if_pos X3] at H
       have m5 : (C1 == 0) = true := beq_iff_eq.mpr X3
       have a5 : (C1 != 0) = false := bne_eq_false_iff_eq.mpr X3
       clear X3
       replace H := Option.bind_eq_some_iff.mp H
       obtain ⟨i6, j4, H⟩ := H
       try dsimp only at H
       have O6 := am_ j4
       clear j4
       simp only [Option.some.injEq, Prod.mk.injEq] at H
       obtain ⟨rfl, rfl⟩ := H
       obtain ⟨Z5, V5, W5⟩ := Kd.R_slice HO_7.out
       subst W5
       go_wp2_with (first | ((with_reducible refine gate_callee (f := 50) rfl ?_); refine gl_ (some 57) Tryz.func50 #[.slice Z5 U0.length V5] ?_; (with_reducible refine (Gx.calls _ _ U0 C2 Z1 C1 _ ?M0 ?Z2 E6.out).mono ?_); (case M0 => repeat (first | exact (Kd.R_reads' HO_7.out).2.2 | (with_reducible refine Kd.C_alloc ?_ _) | (with_reducible refine Kd.C_drewN ?_ _) | (with_reducible refine Kd.C_drew ?_))); (case Z2 => exact (Kd.R_reads' HO_7.out).2.1); rintro e f7 ⟨rfl, hb⟩; refine ⟨_, rfl, ?_⟩; replace HO_7 := tRb HO_7 hb; replace HO_38 := tVb HO_38 hb; replace m0 := tBb m0 hb; replace HB := tHb HB hb; (try clear hb)) | ((with_reducible refine gd_ 10 ?_); refine be_ 10 #[.int .i64 0, .int .i64 0] 28 ?_; intro O1 hg i7 hbox hb; replace HO_7 := tRb HO_7 hb; replace HO_38 := tVe HO_38 hg hb; have N0 := am_ hbox; have K4 := tG HB hg; have Y4 := tG HB hg; replace HB := tHb HB hb; obtain ⟨D2, u0⟩ := tN m0 hg; replace m0 := tBb m0 hb; clear hb hbox hg; obtain ⟨_, _⟩ := n2 u0; obtain ⟨_, _, _, _⟩ := bx2 N0; obtain ⟨_, _, _, _, _, _⟩ := bx3 m0) | ((with_reducible refine gate_callee (f := 51) rfl ?_); refine gl_ (some 66) Tryz.func51 #[.agg #[.int .i64 C2, .int .i64 Z1], .int .i64 a0_0] ?_; (with_reducible refine (Gw.calls C2 Z1 a0_0 i6 _ O6.out).mono ?_); rintro e g7 ⟨rfl, hb⟩; refine ⟨_, rfl, ?_⟩; replace HO_7 := am_ (Kd.R_below (by (with_reducible repeat (first | apply Kd.R_alloc | apply Kd.R_drewN | apply Kd.R_drew)); exact (Kd.R_mono (Kd.R_far (p := ⟨O1, 1, none⟩) (Kd.R_far (p := ⟨O1, 0, none⟩) (Kd.R_types HO_7.out N0.out (by decide)) (fun _ hk => hk.2) (.int .i64 C2)) (fun _ hk => hk.2) (.int .i64 Z1)) (fun _ h_ => h_.1))) hb); replace HO_38 := tVb HO_38 hb; replace m0 := tBb m0 hb; replace N0 := am_ (blk_below (g := O1) (o := .cells #[.int .i64 C2, .int .i64 Z1] 28 (0, 0)) (gP N0 rfl) hb); replace HB := tHb HB hb; (try clear hb)))
       go_ret2
       exact ⟨fe, bh HB⟩
      rw [if_neg X3] at H
      have m5 : (C1 == 0) = false := beq_eq_false_iff_ne.mpr X3
      have a5 : (C1 != 0) = true := bne_iff_ne.mpr X3
      simp only [Option.some.injEq, Prod.mk.injEq] at H
      obtain ⟨rfl, rfl⟩ := H
      obtain ⟨X5, Q5, a6⟩ := Kd.R_slice HO_7.out
      subst a6
      go_wp2_with (first | ((with_reducible refine gate_callee (f := 50) rfl ?_); refine gl_ (some 57) Tryz.func50 #[.slice X5 U0.length Q5] ?_; (with_reducible refine (Gx.calls _ _ U0 C2 Z1 C1 _ ?M0 ?Z2 E6.out).mono ?_); (case M0 => repeat (first | exact (Kd.R_reads' HO_7.out).2.2 | (with_reducible refine Kd.C_alloc ?_ _) | (with_reducible refine Kd.C_drewN ?_ _) | (with_reducible refine Kd.C_drew ?_))); (case Z2 => exact (Kd.R_reads' HO_7.out).2.1); rintro e l7 ⟨rfl, hb⟩; refine ⟨_, rfl, ?_⟩; replace HO_7 := tRb HO_7 hb; replace HO_38 := tVb HO_38 hb; replace m0 := tBb m0 hb; replace HB := tHb HB hb; (try clear hb)) | ((with_reducible refine gd_ 10 ?_); refine be_ 10 #[.int .i64 0, .int .i64 0] 28 ?_; intro O1 hg d7 hbox hb; replace HO_7 := tRb HO_7 hb; replace HO_38 := tVe HO_38 hg hb; have N0 := am_ hbox; have K4 := tG HB hg; have Y4 := tG HB hg; replace HB := tHb HB hb; obtain ⟨D2, u0⟩ := tN m0 hg; replace m0 := tBb m0 hb; clear hb hbox hg; obtain ⟨_, _⟩ := n2 u0; obtain ⟨_, _, _, _⟩ := bx2 N0))
      go_ret2
      exact ⟨fe, bh HB⟩
   rw [if_neg N4] at H
   exact absurd H (by simp)

def Gh.f (a0_0 : Int) (a0_1 : Int) (l0_2 : List SE) (a1 : Int) (a2 : Int) : Option (ByteArray × Int × Int × List (S107) × List ByteArray × Int × Int × Bool) := match l0_2.find? (fun x => x.f1.f0 == a1 && x.f1.f1 == a2) with
 | some x => some (x.f0, x.f1.f0, x.f1.f1, x.f1.f2, x.f1.f3, x.f1.f4.f0, x.f1.f4.f1, true)
 | none => some ((⟨#[]⟩ : ByteArray), 0, 0, [], [], 0, 0, false)
theorem Gh.calls (a0_0 : Int) (a0_1 : Int) (a0 : Nat → Prop) (A0_2 : Option Addr) (c0_2 : Nat) (l0_2 : List (S32)) (a1 : Int) (a2 : Int) (r1 : ByteArray) (r2 : Int) (r3 : Int) (r4 : List (S107)) (r5 : List ByteArray) (r6 : Int) (r7 : Int) (r8 : Bool) (w : World) (m0 : Kd.V k32 32 w w.heap.size (fun k_ => a0 k_) (.slice A0_2 l0_2.length c0_2) l0_2) (h : Gh.f a0_0 a0_1 l0_2 a1 a2 = some (r1, r2, r3, r4, r5, r6, r7, r8)) :
  Calls Tryz.prog 28 #[.agg #[.int .i64 a0_0, .int .i64 a0_1, .slice A0_2 l0_2.length c0_2], .int .i64 a1, .int .i64 a2] w fun e w' => ∃ (A0 : Value) (z0 : Value), e = .returned (.tuple #[.agg #[.string r1, .int .i64 r2, .int .i64 r3, A0, z0, .int .i64 r6, .int .i64 r7], .bool r8]) ∧ Kd.V k107 107 w' w.heap.size (fun k_ => (a0 k_ ∨ w.heap.size ≤ k_)) A0 r4 ∧ Kd.V Kd.string 9 w' w.heap.size (fun k_ => (a0 k_ ∨ w.heap.size ≤ k_)) z0 r5 ∧ Below w.heap.size w w' := by
 obtain ⟨_, _, hF⟩ := Kd.V_at m0
 have hmx := Kd.F_max hF
 obtain ⟨rs, hrs, hrow⟩ := F_relsE hF
 have hc := Si.by_c A0_2 c0_2 rs a0_0 a0_1 a1 a2 w hrow (by rw [hrs.len]; exact hmx)
 have hf := first_rel (fun r : Si.ER => r.au == a1 && r.ro == a2) (fun x : SE => x.f1.f0 == a1 && x.f1.f1 == a2) (fun r x hr => by rw [hr.2.1, hr.2.2.1]) rs l0_2 hrs
 rw [hrs.len] at hc
 unfold Gh.f at h
 refine hc.mono ?_
 rintro e w' ⟨rfl, hb⟩
 cases hq : l0_2.find? (fun x => x.f1.f0 == a1 && x.f1.f1 == a2) with
 | some x =>
  rw [hq] at h hf
  dsimp only at h hf
  simp only [Option.some.injEq, Prod.mk.injEq] at h
  obtain ⟨rfl, rfl, rfl, rfl, rfl, rfl, rfl, rfl⟩ := h
  obtain ⟨h1, h2, h3, h4, h5, h6, h7, h8, h9, n0, u0, o0⟩ := hf
  rw [h1]
  generalize (Si.firstE (fun x => x.au == a1 && x.ro == a2) rs).1 = r at h2 h3 h4 h5 h6 h7 h8 h9 n0 u0 o0
  obtain ⟨yd, yau, yro, M0, L0, I0, E0, N0, C0, yea, yeb⟩ := r
  dsimp only at h2 h3 h4 h5 h6 h7 h8 h9 n0 u0 o0
  subst h2 h3 h4 h5 h8 u0 o0
  exact ⟨_, _, rfl, Kd.V_mono (Kd.V_mk h6 (Kd.F_below h7 hb)) (fun k hk => .inl hk), Kd.V_mono (Kd.V_mk h9 (Kd.F_below n0 hb)) (fun k hk => .inl hk), hb⟩
 | none =>
  rw [hq] at h hf
  dsimp only at h hf
  simp only [Option.some.injEq, Prod.mk.injEq] at h
  obtain ⟨rfl, rfl, rfl, rfl, rfl, rfl, rfl, rfl⟩ := h
  rw [hf]
  exact ⟨_, _, rfl, Kd.V_nil _ _ _ _ _, Kd.V_nil _ _ _ _ _, hb⟩

def Gb.f (k : Nat) (a0_0 : Int) (a0_1 : Int) (l0_2 : List (S32)) (a1 : Int) : Option (ByteArray × Int × Int × (List (S107)) × List ByteArray × Int × Int × Int) := (F8.f k a0_0 a0_1 l0_2 a1).bind fun m0 => (if m0.2 = 0 then ((Gh.f a0_0 a0_1 l0_2 m0.1 (wrap64 ((wrap64 (3 * a1)) - 2))).bind fun a0 => (if a0.2.2.2.2.2.2.2 = true then (some (a0.1, a0.2.1, a0.2.2.1, a0.2.2.2.1, a0.2.2.2.2.1, a0.2.2.2.2.2.1, a0.2.2.2.2.2.2.1, 0)) else (some ((⟨#[]⟩ : ByteArray), 0, 0, ([] : List (S107)), ([] : List ByteArray), 0, 0, 7)))) else (some ((⟨#[]⟩ : ByteArray), 0, 0, ([] : List (S107)), ([] : List ByteArray), 0, 0, m0.2)))
set_option maxHeartbeats 8000000 in
set_option maxRecDepth 100000 in
theorem Gb.calls (k : Nat) (a0_0 : Int) (a0_1 : Int) (z0 : Nat → Prop) (A0_2 : Option Addr) (c0_2 : Nat) (l0_2 : List (S32)) (a1 : Int) (r1 : ByteArray) (r2 : Int) (r3 : Int) (r4 : List (S107)) (r5 : List ByteArray) (r6 : Int) (r7 : Int) (r8 : Int) (w : World) (C2 : Kd.V k32 32 w w.heap.size (fun k_ => z0 k_) (.slice A0_2 l0_2.length c0_2) l0_2) (h : Gb.f k a0_0 a0_1 l0_2 a1 = some (r1, r2, r3, r4, r5, r6, r7, r8)) :
  Calls Tryz.prog 9 #[.agg #[.int .i64 a0_0, .int .i64 a0_1, .slice A0_2 l0_2.length c0_2], .int .i64 a1] w fun e w' => ∃ D3 C3 : Value, e = .returned (.tuple #[.agg #[.string r1, .int .i64 r2, .int .i64 r3, D3, C3, .int .i64 r6, .int .i64 r7], .int .i64 r8]) ∧ Kd.V k107 107 w' w.heap.size (fun k_ => (z0 k_ ∨ w.heap.size ≤ k_)) D3 r4 ∧ Kd.V Kd.string 9 w' w.heap.size (fun k_ => (z0 k_ ∨ w.heap.size ≤ k_)) C3 r5 ∧ Below w.heap.size w w' := by
 have W3 := Tryz.underlying24
 have N3 := Tryz.underlying32
 have m0 := am_ (show Kd.V k32 32 w w.heap.size (fun k_ => (z0 k_ ∨ w.heap.size ≤ k_)) (.slice A0_2 l0_2.length c0_2) l0_2 from Kd.V_mono C2 (fun k_ hk => .inl hk))
 have HB := am_ (Below.refl w.heap.size w)
 have H : ((F8.f k a0_0 a0_1 l0_2 a1).bind fun Y0 => (if Y0.2 = 0 then ((Gh.f a0_0 a0_1 l0_2 Y0.1 (wrap64 ((wrap64 (3 * a1)) - 2))).bind fun M0 => (if M0.2.2.2.2.2.2.2 = true then (some (M0.1, M0.2.1, M0.2.2.1, M0.2.2.2.1, M0.2.2.2.2.1, M0.2.2.2.2.2.1, M0.2.2.2.2.2.2.1, 0)) else (some ((⟨#[]⟩ : ByteArray), 0, 0, ([] : List (S107)), ([] : List ByteArray), 0, 0, 7)))) else (some ((⟨#[]⟩ : ByteArray), 0, 0, ([] : List (S107)), ([] : List ByteArray), 0, 0, Y0.2)))) = some (r1, r2, r3, r4, r5, r6, r7, r8) := h
 clear h
 replace H := Option.bind_eq_some_iff.mp H
 obtain ⟨⟨U0, Q0⟩, L3, H⟩ := H
 try dsimp only at H
 have A3 := am_ L3
 clear L3
 by_cases c4 : Q0 = 0
 ·
  rw [if_pos c4] at H
  have a3 : (Q0 == 0) = true := beq_iff_eq.mpr c4
  have Y2 : (Q0 != 0) = false := bne_eq_false_iff_eq.mpr c4
  clear c4
  replace H := Option.bind_eq_some_iff.mp H
  obtain ⟨⟨U1, P1, N1, V1, L1, O1, Q1, Z2⟩, k3, H⟩ := H
  try dsimp only at H
  have A5 := am_ k3
  clear k3
  by_cases c6 : Z2 = true
  ·
   subst c6
   rw [if_pos rfl] at H
   simp only [Option.some.injEq, Prod.mk.injEq] at H
   obtain ⟨rfl, rfl, rfl, rfl, rfl, rfl, rfl, rfl⟩ := H
   go_enter Tryz.func9, Tryz.ntmps9
   go_wp2_with (first | ((with_reducible refine gd_ 2 ?_); refine be_ 2 #[.int .i64 a0_0, .int .i64 a0_1, .slice A0_2 l0_2.length c0_2] 24 ?_; intro L0 hg w7 hbox hb; replace m0 := tVe m0 hg hb; have a0 := am_ hbox; have i1 := tG HB hg; have Z0 := tG HB hg; replace HB := tHb HB hb; clear hb hbox hg) | ((with_reducible refine gd_ 4 ?_); refine be_ 4 #[.string (⟨#[]⟩ : ByteArray), .int .i64 0, .int .i64 0, .slice none 0 0, .slice none 0 0, .int .i64 0, .int .i64 0] 32 ?_; intro u0 hg w8 hbox hb; replace m0 := tVe m0 hg hb; have n0 := am_ hbox; have C1 := tG HB hg; have D1 := tG HB hg; replace HB := tHb HB hb; obtain ⟨o0, O0⟩ := tN a0 hg; replace a0 := tBb a0 hb; clear hb hbox hg; obtain ⟨_, _⟩ := n2 o0; obtain ⟨_, _, _, _, _, _⟩ := bx3 a0) | ((with_reducible refine gate_callee (f := 27) rfl ?_); refine gl_ (some 13) Tryz.func27 #[.agg #[.int .i64 a0_0, .int .i64 a0_1, .slice A0_2 l0_2.length c0_2], .int .i64 a1] ?_; (with_reducible refine (F8.calls k a0_0 a0_1 _ _ l0_2 a1 U0 Q0 _ ?A0 ?P0 A3.out).mono ?_); (case A0 => repeat (first | exact (Kd.V_reads' m0.out).2.2 | (with_reducible refine Kd.C_alloc ?_ _) | (with_reducible refine Kd.C_drewN ?_ _) | (with_reducible refine Kd.C_drew ?_))); (case P0 => exact (Kd.V_reads' m0.out).2.1); rintro e k4 ⟨rfl, hb⟩; refine ⟨_, rfl, ?_⟩; replace m0 := tVb m0 hb; replace a0 := tBb a0 hb; replace n0 := tBb n0 hb; replace HB := tHb HB hb; (try clear hb); obtain ⟨_, _, _, _, _, _⟩ := bx3 a0) | ((with_reducible refine gate_callee (f := 28) rfl ?_); refine gl_ (some 26) Tryz.func28 #[.agg #[.int .i64 a0_0, .int .i64 a0_1, .slice A0_2 l0_2.length c0_2], .int .i64 U0, .int .i64 (wrap64 ((wrap64 (3 * a1)) - 2))] ?_; (with_reducible refine (Gh.calls a0_0 a0_1 (fun k_ => (((z0 k_ ∨ w.heap.size ≤ k_) ∧ k_ ≠ L0) ∧ k_ ≠ u0)) _ _ l0_2 U0 (wrap64 ((wrap64 (3 * a1)) - 2)) U1 P1 N1 V1 L1 O1 Q1 true _ ?A0 A5.out).mono ?_); (case A0 => exact m0.out); rintro e Z3 ⟨J2, N2, rfl, Y1, Z1, hb⟩; refine ⟨_, rfl, ?_⟩; replace m0 := tVb m0 hb; have N0 := lo (fun k_ => (z0 k_ ∨ w.heap.size ≤ k_) ∧ k_ ≠ L0 ∧ k_ ≠ u0) Y1 (fun k_ hk_ => ⟨Or.elim hk_ (fun hs_ => hs_.1.1) (fun hn_ => (.inr (Nat.le_trans (below_size (bh HB)) hn_))), Or.elim hk_ (fun hs_ => hs_.1.2) (fun hn_ => (gFr a0 k_ hn_)), Or.elim hk_ (fun hs_ => hs_.2) (fun hn_ => (gFr n0 k_ hn_))⟩) HB; have I0 := lo (fun k_ => (z0 k_ ∨ w.heap.size ≤ k_) ∧ k_ ≠ L0 ∧ k_ ≠ u0) Z1 (fun k_ hk_ => ⟨Or.elim hk_ (fun hs_ => hs_.1.1) (fun hn_ => (.inr (Nat.le_trans (below_size (bh HB)) hn_))), Or.elim hk_ (fun hs_ => hs_.1.2) (fun hn_ => (gFr a0 k_ hn_)), Or.elim hk_ (fun hs_ => hs_.2) (fun hn_ => (gFr n0 k_ hn_))⟩) HB; replace a0 := tBb a0 hb; replace n0 := tBb n0 hb; replace HB := tHb HB hb; (try clear hb Y1 Z1)) | ((with_reducible refine gd_ 8 ?_); refine be_ 8 #[.string (⟨#[]⟩ : ByteArray), .int .i64 0, .int .i64 0, .slice none 0 0, .slice none 0 0, .int .i64 0, .int .i64 0] 32 ?_; intro i2 hg X3 hbox hb; replace m0 := tVe m0 hg hb; replace N0 := tVe N0 hg hb; replace I0 := tVe I0 hg hb; have X0 := am_ hbox; have D2 := tG HB hg; have X1 := tG HB hg; replace HB := tHb HB hb; obtain ⟨V0, C0⟩ := tN a0 hg; replace a0 := tBb a0 hb; obtain ⟨W0, E0⟩ := tN n0 hg; replace n0 := tBb n0 hb; clear hb hbox hg; obtain ⟨_, _⟩ := n2 C0; obtain ⟨_, _⟩ := n2 E0; obtain ⟨_, _, _, _, _, _, _, _, _, _, _, _, _, _⟩ := bx7 X0; obtain ⟨Q2, V2, rfl⟩ := Kd.V_slice N0.out; obtain ⟨L2, b3, rfl⟩ := Kd.V_slice I0.out; obtain ⟨m3, J3, I3, _, _, _, _, u3, i3, l3, _, _, _, _⟩ := bx7 n0))
   refine bodyPost_ret (results_ct rfl _ _ u0 32 #[.string U1, .int .i64 P1, .int .i64 N1, .slice Q2 V1.length V2, .slice L2 L1.length b3, .int .i64 O1, .int .i64 Q1] (0, 0) _ rfl (gP n0 rfl) Tryz.underlying32 rfl (by kernel_rfl)) rfl ?_
   exact ⟨_, _, fe, gV N0, gV I0, bh HB⟩
  replace c6 := Bool.eq_false_iff.mpr c6
  subst c6
  rw [if_neg (show ¬ (false = true) by decide)] at H
  simp only [Option.some.injEq, Prod.mk.injEq] at H
  obtain ⟨rfl, rfl, rfl, rfl, rfl, rfl, rfl, rfl⟩ := H
  go_enter Tryz.func9, Tryz.ntmps9
  go_wp2_with (first | ((with_reducible refine gd_ 2 ?_); refine be_ 2 #[.int .i64 a0_0, .int .i64 a0_1, .slice A0_2 l0_2.length c0_2] 24 ?_; intro L0 hg u4 hbox hb; replace m0 := tVe m0 hg hb; have a0 := am_ hbox; have i1 := tG HB hg; have Z0 := tG HB hg; replace HB := tHb HB hb; clear hb hbox hg) | ((with_reducible refine gd_ 4 ?_); refine be_ 4 #[.string (⟨#[]⟩ : ByteArray), .int .i64 0, .int .i64 0, .slice none 0 0, .slice none 0 0, .int .i64 0, .int .i64 0] 32 ?_; intro u0 hg j4 hbox hb; replace m0 := tVe m0 hg hb; have n0 := am_ hbox; have C1 := tG HB hg; have D1 := tG HB hg; replace HB := tHb HB hb; obtain ⟨o0, O0⟩ := tN a0 hg; replace a0 := tBb a0 hb; clear hb hbox hg; obtain ⟨_, _⟩ := n2 o0; obtain ⟨_, _, _, _, _, _⟩ := bx3 a0) | ((with_reducible refine gate_callee (f := 27) rfl ?_); refine gl_ (some 13) Tryz.func27 #[.agg #[.int .i64 a0_0, .int .i64 a0_1, .slice A0_2 l0_2.length c0_2], .int .i64 a1] ?_; (with_reducible refine (F8.calls k a0_0 a0_1 _ _ l0_2 a1 U0 Q0 _ ?A0 ?P0 A3.out).mono ?_); (case A0 => repeat (first | exact (Kd.V_reads' m0.out).2.2 | (with_reducible refine Kd.C_alloc ?_ _) | (with_reducible refine Kd.C_drewN ?_ _) | (with_reducible refine Kd.C_drew ?_))); (case P0 => exact (Kd.V_reads' m0.out).2.1); rintro e l4 ⟨rfl, hb⟩; refine ⟨_, rfl, ?_⟩; replace m0 := tVb m0 hb; replace a0 := tBb a0 hb; replace n0 := tBb n0 hb; replace HB := tHb HB hb; (try clear hb); obtain ⟨_, _, _, _, _, _⟩ := bx3 a0) | ((with_reducible refine gate_callee (f := 28) rfl ?_); refine gl_ (some 26) Tryz.func28 #[.agg #[.int .i64 a0_0, .int .i64 a0_1, .slice A0_2 l0_2.length c0_2], .int .i64 U0, .int .i64 (wrap64 ((wrap64 (3 * a1)) - 2))] ?_; (with_reducible refine (Gh.calls a0_0 a0_1 (fun k_ => (((z0 k_ ∨ w.heap.size ≤ k_) ∧ k_ ≠ L0) ∧ k_ ≠ u0)) _ _ l0_2 U0 (wrap64 ((wrap64 (3 * a1)) - 2)) U1 P1 N1 V1 L1 O1 Q1 false _ ?A0 A5.out).mono ?_); (case A0 => exact m0.out); rintro e m4 ⟨J2, N2, rfl, Y1, Z1, hb⟩; refine ⟨_, rfl, ?_⟩; replace m0 := tVb m0 hb; have N0 := lo (fun k_ => (z0 k_ ∨ w.heap.size ≤ k_) ∧ k_ ≠ L0 ∧ k_ ≠ u0) Y1 (fun k_ hk_ => ⟨Or.elim hk_ (fun hs_ => hs_.1.1) (fun hn_ => (.inr (Nat.le_trans (below_size (bh HB)) hn_))), Or.elim hk_ (fun hs_ => hs_.1.2) (fun hn_ => (gFr a0 k_ hn_)), Or.elim hk_ (fun hs_ => hs_.2) (fun hn_ => (gFr n0 k_ hn_))⟩) HB; have I0 := lo (fun k_ => (z0 k_ ∨ w.heap.size ≤ k_) ∧ k_ ≠ L0 ∧ k_ ≠ u0) Z1 (fun k_ hk_ => ⟨Or.elim hk_ (fun hs_ => hs_.1.1) (fun hn_ => (.inr (Nat.le_trans (below_size (bh HB)) hn_))), Or.elim hk_ (fun hs_ => hs_.1.2) (fun hn_ => (gFr a0 k_ hn_)), Or.elim hk_ (fun hs_ => hs_.2) (fun hn_ => (gFr n0 k_ hn_))⟩) HB; replace a0 := tBb a0 hb; replace n0 := tBb n0 hb; replace HB := tHb HB hb; (try clear hb Y1 Z1)) | ((with_reducible refine gd_ 8 ?_); refine be_ 8 #[.string (⟨#[]⟩ : ByteArray), .int .i64 0, .int .i64 0, .slice none 0 0, .slice none 0 0, .int .i64 0, .int .i64 0] 32 ?_; intro i2 hg s4 hbox hb; replace m0 := tVe m0 hg hb; replace N0 := tVe N0 hg hb; replace I0 := tVe I0 hg hb; have X0 := am_ hbox; have D2 := tG HB hg; have X1 := tG HB hg; replace HB := tHb HB hb; obtain ⟨V0, C0⟩ := tN a0 hg; replace a0 := tBb a0 hb; obtain ⟨W0, E0⟩ := tN n0 hg; replace n0 := tBb n0 hb; clear hb hbox hg; obtain ⟨_, _⟩ := n2 C0; obtain ⟨_, _⟩ := n2 E0; obtain ⟨_, _, _, _, _, _, _, _, _, _, _, _, _, _⟩ := bx7 X0; obtain ⟨Q3, V3, rfl⟩ := Kd.V_slice N0.out; obtain ⟨S3, U3, rfl⟩ := Kd.V_slice I0.out; obtain ⟨_, _, _, _, _, _, _, _, _, _, _, _, _, _⟩ := bx7 n0))
  refine bodyPost_ret (results_ct rfl _ _ u0 32 #[.string (⟨#[]⟩ : ByteArray), .int .i64 0, .int .i64 0, .slice none 0 0, .slice none 0 0, .int .i64 0, .int .i64 0] (0, 0) _ rfl (gP n0 rfl) Tryz.underlying32 rfl (by kernel_rfl)) rfl ?_
  exact ⟨_, _, fe, Kd.V_nil _ _ _ _ _, Kd.V_nil _ _ _ _ _, bh HB⟩
 rw [if_neg c4] at H
 have a3 : (Q0 == 0) = false := beq_eq_false_iff_ne.mpr c4
 have Y2 : (Q0 != 0) = true := bne_iff_ne.mpr c4
 simp only [Option.some.injEq, Prod.mk.injEq] at H
 obtain ⟨rfl, rfl, rfl, rfl, rfl, rfl, rfl, rfl⟩ := H
 go_enter Tryz.func9, Tryz.ntmps9
 go_wp2_with (first | ((with_reducible refine gd_ 2 ?_); refine be_ 2 #[.int .i64 a0_0, .int .i64 a0_1, .slice A0_2 l0_2.length c0_2] 24 ?_; intro L0 hg i4 hbox hb; replace m0 := tVe m0 hg hb; have a0 := am_ hbox; have i1 := tG HB hg; have Z0 := tG HB hg; replace HB := tHb HB hb; clear hb hbox hg) | ((with_reducible refine gd_ 4 ?_); refine be_ 4 #[.string (⟨#[]⟩ : ByteArray), .int .i64 0, .int .i64 0, .slice none 0 0, .slice none 0 0, .int .i64 0, .int .i64 0] 32 ?_; intro u0 hg a4 hbox hb; replace m0 := tVe m0 hg hb; have n0 := am_ hbox; have C1 := tG HB hg; have D1 := tG HB hg; replace HB := tHb HB hb; obtain ⟨o0, O0⟩ := tN a0 hg; replace a0 := tBb a0 hb; clear hb hbox hg; obtain ⟨_, _⟩ := n2 o0; obtain ⟨_, _, _, _, _, _⟩ := bx3 a0) | ((with_reducible refine gate_callee (f := 27) rfl ?_); refine gl_ (some 13) Tryz.func27 #[.agg #[.int .i64 a0_0, .int .i64 a0_1, .slice A0_2 l0_2.length c0_2], .int .i64 a1] ?_; (with_reducible refine (F8.calls k a0_0 a0_1 _ _ l0_2 a1 U0 Q0 _ ?A0 ?P0 A3.out).mono ?_); (case A0 => repeat (first | exact (Kd.V_reads' m0.out).2.2 | (with_reducible refine Kd.C_alloc ?_ _) | (with_reducible refine Kd.C_drewN ?_ _) | (with_reducible refine Kd.C_drew ?_))); (case P0 => exact (Kd.V_reads' m0.out).2.1); rintro e Y3 ⟨rfl, hb⟩; refine ⟨_, rfl, ?_⟩; replace m0 := tVb m0 hb; replace a0 := tBb a0 hb; replace n0 := tBb n0 hb; replace HB := tHb HB hb; (try clear hb); obtain ⟨_, _, _, _, _, _, _, _, _, _, _, _, _, _⟩ := bx7 n0))
 refine bodyPost_ret (results_ct rfl _ _ u0 32 #[.string (⟨#[]⟩ : ByteArray), .int .i64 0, .int .i64 0, .slice none 0 0, .slice none 0 0, .int .i64 0, .int .i64 0] (0, 0) _ rfl (gP n0 rfl) Tryz.underlying32 rfl (by kernel_rfl)) rfl ?_
 exact ⟨_, _, fe, Kd.V_nil _ _ _ _ _, Kd.V_nil _ _ _ _ _, bh HB⟩

end Go.Proofs.YtopijobdblfhoaaGreat.PTuskAsks
