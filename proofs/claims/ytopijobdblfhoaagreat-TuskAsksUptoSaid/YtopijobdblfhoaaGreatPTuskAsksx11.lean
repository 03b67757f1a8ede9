-- written by a program of this session (pp.py), out of the kit's print and this session's contracts
import Derived.Test.YtopijobdblfhoaaGreatPTuskAsksx0
import Derived.Test.YtopijobdblfhoaaGreatVTuskAsksPi
namespace Go.Proofs.YtopijobdblfhoaaGreat.PTuskAsks
open Go.RowKit Go.Proofs.YtopijobdblfhoaaGreatW.PrintWords Go.Proofs.YtopijobdblfhoaaGreatW.PrintLast Go.Proofs.YtopijobdblfhoaaGreatW.PrintMore
set_option linter.unusedVariables false
set_option linter.unusedSimpArgs false

def F2.l0 : Nat → Int → List (S32) → Int → Int → Int → List (S32) → Option ((List (S32)))
 | 0, _, _, _, _, _, _ => none
 | k + 1, x1, x5, x6, m0, n0, a0 => if x6 < (a0.length : Int) then (if 0 ≤ x6 then (if ((rd_T32 a0 x6).f1.f1) = x1 then (if x5.length < 1466015503701 then (F2.l0 k x1 (x5 ++ [(⟨(rd_T32 a0 x6).f0, (⟨(rd_T32 a0 x6).f1.f0, (rd_T32 a0 x6).f1.f1, (rd_T32 a0 x6).f1.f2, (rd_T32 a0 x6).f1.f3, (⟨(rd_T32 a0 x6).f1.f4.f0, (rd_T32 a0 x6).f1.f4.f1⟩ : S28)⟩ : S30)⟩ : S32)]) (wrap64 (x6 + 1)) m0 n0 a0) else (none)) else (F2.l0 k x1 x5 (wrap64 (x6 + 1)) m0 n0 a0)) else (none)) else (some x5)
def F2.f (k : Nat) (a0_0 : Int) (a0_1 : Int) (l0_2 : List (S32)) (a1 : Int) : Option ((List (S32))) := F2.l0 k a1 ([] : List (S32)) 0 a0_0 a0_1 l0_2
theorem F2.mono_l : ∀ k, (∀ y0 y1 y2 y3 y4 y5, LeO (F2.l0 k y0 y1 y2 y3 y4 y5) (F2.l0 (k + 1) y0 y1 y2 y3 y4 y5))
 | 0 => fun _ _ _ _ _ _ r h => by simp [F2.l0] at h
 | k + 1 => by
  have a0 := F2.mono_l k
  ·
   intro y0 y1 y2 y3 y4 y5
   unfold F2.l0
   repeat' first | (with_reducible first | exact a0 _ _ _ _ _ _ | exact LeO.refl _ | exact LeO.none _ | refine LeO.ite ?_ ?_ | refine LeO.bind ?_ (fun _ => ?_)) | exact a0 _ _ _ _ _ _ | refine LeO.ite ?_ ?_ | refine LeO.bind ?_ (fun _ => ?_)
theorem F2.mono : ∀ a0 a1 a2 a3 k, LeO (F2.f k a0 a1 a2 a3) (F2.f (k + 1) a0 a1 a2 a3) := by
 intro a0 a1 a2 a3 k
 have m0 := F2.mono_l k
 unfold F2.f
 repeat' first | (with_reducible first | exact m0 _ _ _ _ _ _ | exact LeO.refl _ | exact LeO.none _ | refine LeO.ite ?_ ?_ | refine LeO.bind ?_ (fun _ => ?_)) | exact m0 _ _ _ _ _ _ | refine LeO.ite ?_ ?_ | refine LeO.bind ?_ (fun _ => ?_)
set_option maxHeartbeats 8000000 in
set_option maxRecDepth 100000 in
theorem F2.calls (k : Nat) (a0_0 : Int) (a0_1 : Int) (m0 : Nat → Prop) (A0_2 : Option Addr) (c0_2 : Nat) (l0_2 : List (S32)) (a1 : Int) (r : List (S32)) (w : World) (Y3 : Kd.V k32 32 w w.heap.size (fun k_ => m0 k_) (.slice A0_2 l0_2.length c0_2) l0_2) (h : F2.f k a0_0 a0_1 l0_2 a1 = some r) :
  Calls Tryz.prog 36 #[.agg #[.int .i64 a0_0, .int .i64 a0_1, .slice A0_2 l0_2.length c0_2], .int .i64 a1] w fun e w' => ∃ a5 : Value, e = .returned (a5) ∧ Kd.N k32 32 w' w.heap.size (fun k_ => (m0 k_ ∨ w.heap.size ≤ k_)) a5 r ∧ Below w.heap.size w w' := by
 have k5 := Tryz.underlying24
 have l5 := Tryz.underlying32
 have V2 := am_ (show Kd.V k32 32 w w.heap.size (fun k_ => (m0 k_ ∨ w.heap.size ≤ k_)) (.slice A0_2 l0_2.length c0_2) l0_2 from Kd.V_mono Y3 (fun k_ hk => .inl hk))
 have HB := am_ (Below.refl w.heap.size w)
 have H : (F2.l0 k a1 ([] : List (S32)) 0 a0_0 a0_1 l0_2) = some r := h
 clear h
 have H' := am_ H
 clear H
 go_enter Tryz.func36, Tryz.ntmps36
 go_wp2_with (first | ((with_reducible refine gd_ 2 ?_); refine be_ 2 #[.int .i64 a0_0, .int .i64 a0_1, .slice A0_2 l0_2.length c0_2] 24 ?_; intro u0 hg w3 hbox hb; replace V2 := tVe V2 hg hb; have I0 := am_ hbox; have Z4 := tG HB hg; have b5 := tG HB hg; replace HB := tHb HB hb; clear hb hbox hg))
 go_loopg [5, 6] k (fun kq v5 v6 w' => ∃ (L2 : List (S32)) (a0 : Int), v6 = .int .i64 a0 ∧ Asc (F2.l0 kq a1 L2 a0 a0_0 a0_1 l0_2 = some r) ∧ Asc (kq ≤ k) ∧ Asc (Kd.N k32 32 w' w.heap.size (fun k_ => (m0 k_ ∨ w.heap.size ≤ k_) ∧ k_ ≠ u0) v5 L2) ∧ Asc (Kd.V k32 32 w' w.heap.size (fun k_ => (m0 k_ ∨ w.heap.size ≤ k_) ∧ some k_ ≠ (v5 : Value).ownBlock ∧ k_ ≠ u0) (.slice A0_2 l0_2.length c0_2) l0_2) ∧ Asc (w'.heap[u0]? = some (.cells #[.int .i64 a0_0, .int .i64 a0_1, (.slice A0_2 l0_2.length c0_2)] 24 (0, 0))) ∧ Asc (Below w.heap.size w w'))
 case atStart => exact ⟨(([] : List (S32))), (0), fr, H', ⟨Nat.le_refl _⟩, ⟨kn⟩, ⟨gV V2⟩, ⟨gB I0⟩, ⟨bh HB⟩⟩
 case round =>
  clear H'
  obtain ⟨L2, a0, rfl, HA, L4, HO_5, HO_293002, I0, HB⟩ := hrel
  cases gk with
  | zero => exact absurd HA.out (by simp [F2.l0])
  | succ k1 =>
   have H := HA.out
   clear HA
   simp only [F2.l0] at H
   by_cases c4 : a0 < (l0_2.length : Int)
   ·
    rw [if_pos c4] at H
    have Y4 : decide (a0 < (l0_2.length : Int)) = true := decide_eq_true c4
    clear c4
    revert H
    refine gi (fun i5 H => ?_)
    by_cases c6 : ((rd_T32 l0_2 a0).f1.f1) = a1
    ·
     rw [if_pos c6] at H
     have R4 : (((rd_T32 l0_2 a0).f1.f1) == a1) = true := beq_iff_eq.mpr c6
     have Q4 : (((rd_T32 l0_2 a0).f1.f1) != a1) = false := bne_eq_false_iff_eq.mpr c6
     clear c6
     revert H
     refine gi' (fun c7 H => ?_)
     have V4 := am_ c7
     clear c7
     obtain ⟨Z3, Q1⟩ : ∃ y_ : List (S32), y_ = (L2 ++ [(⟨(rd_T32 l0_2 a0).f0, (⟨(rd_T32 l0_2 a0).f1.f0, (rd_T32 l0_2 a0).f1.f1, (rd_T32 l0_2 a0).f1.f2, (rd_T32 l0_2 a0).f1.f3, (⟨(rd_T32 l0_2 a0).f1.f4.f0, (rd_T32 l0_2 a0).f1.f4.f1⟩ : S28)⟩ : S30)⟩ : S32)]) := ⟨_, rfl⟩
     replace H : (F2.l0 k1 a1 Z3 (wrap64 (a0 + 1)) a0_0 a0_1 l0_2) = some r := by first | (rw [Q1]; with_reducible exact H) | (have H := (Option.bind_some _ _).symm.trans H; first | (rw [Q1]; with_reducible exact H) | with_reducible exact H) | with_reducible exact H | (rw [Q1]; exact H) | exact H
     have j4 := am_ Q1
     clear Q1
     have H' := am_ H
     clear H
     obtain ⟨_, _, _, _, _, _⟩ := bx3 I0
     have D1 : 0 ≤ (a0 : Int) := dt
     have L1 : a0 < (l0_2.length : Int) := dt
     obtain ⟨U3, N2, Y2, Q2, Z2, X3, Q3, l3, D3, X0, W0, u3, L3, P0, M0, N0, O0⟩ := at_T32 (Kd.V_reads' HO_293002.out).2.2 a0 D1 L1
     cases X3
     obtain ⟨k4, V1, U1, L0⟩ := Kd.V_get HO_293002.out z32 a0 D1 (by first | exact L1 | exact dt | (have e_ := (Kd.V_reads' HO_293002.out).1; omega))
     obtain ⟨I3, i3, m3, J3, rfl, z0, C0, A0, E0⟩ := k32_openF U1
     have n0 := L0 3 _ rfl
     rw [add_field _ _ 3 (by omega)] at n0
     replace n0 := Option.some.inj (n0.symm.trans X0)
     injection n0 with hva_ hvn_ hvc_
     rw [hva_] at C0
     rw [hvc_] at z0
     have O1 := am_ (show Kd.V k107 107 _ w.heap.size _ _ ((rd_T32 l0_2 a0).f1.f2) from Kd.V_mk z0 C0)
     clear hva_ hvn_ hvc_ C0 z0
     have o0 := L0 4 _ rfl
     rw [add_field _ _ 4 (by omega)] at o0
     replace o0 := Option.some.inj (o0.symm.trans W0)
     injection o0 with hva_ hvn_ hvc_
     rw [hva_] at E0
     rw [hvc_] at A0
     have i1 := am_ (show Kd.V Kd.string 9 _ w.heap.size _ _ ((rd_T32 l0_2 a0).f1.f3) from Kd.V_mk A0 E0)
     clear hva_ hvn_ hvc_ E0 A0 L0 V1
     have C3 := am_ M0
     have a3 := am_ P0
     clear M0 P0
     have b3 := am_ O0
     have N3 := am_ N0
     clear O0 N0
     replace D1 := eq_true D1
     replace L1 := eq_true L1
     have k3 : 0 ≤ (a0 : Int) := dt
     have S3 : a0 < (l0_2.length : Int) := dt
     obtain ⟨a4, P4, S4, X4, U4, W4, N4, I4, l4, Y1, i2, m4, s4, D2, J2, C2, Z1⟩ := at_T32 (Kd.V_reads' HO_293002.out).2.2 a0 k3 S3
     obtain rfl : U3 = a4 := (by injection W4)
     obtain ⟨c5, V3, W3, X1⟩ := Kd.V_get HO_293002.out z32 a0 k3 (by first | exact S3 | exact dt | (have e_ := (Kd.V_reads' HO_293002.out).1; omega))
     obtain ⟨J4, u4, E4, M4, rfl, P1, Z0, C1, N1⟩ := k32_openF W3
     have U0 := X1 3 _ rfl
     rw [add_field _ _ 3 (by omega)] at U0
     replace U0 := Option.some.inj (U0.symm.trans Y1)
     injection U0 with hva_ hvn_ hvc_
     rw [hva_] at Z0
     rw [hvc_] at P1
     have Y0 := am_ (show Kd.V k107 107 _ w.heap.size _ _ ((rd_T32 l0_2 a0).f1.f2) from Kd.V_mk P1 Z0)
     clear hva_ hvn_ hvc_ Z0 P1
     have Q0 := X1 4 _ rfl
     rw [add_field _ _ 4 (by omega)] at Q0
     replace Q0 := Option.some.inj (Q0.symm.trans i2)
     injection Q0 with hva_ hvn_ hvc_
     rw [hva_] at N1
     rw [hvc_] at C1
     have V0 := am_ (show Kd.V Kd.string 9 _ w.heap.size _ _ ((rd_T32 l0_2 a0).f1.f3) from Kd.V_mk C1 N1)
     clear hva_ hvn_ hvc_ N1 C1 X1 V3
     have K4 := am_ J2
     have C4 := am_ D2
     clear J2 D2
     have O4 := am_ Z1
     have D4 := am_ C2
     clear Z1 C2
     replace k3 := eq_true k3
     replace S3 := eq_true S3
     have ea_ := Option.some.inj (X0.symm.trans Y1)
     injection ea_ with ea_ en_ ec_
     subst ea_
     subst ec_
     clear en_
     have ea_ := Option.some.inj (W0.symm.trans i2)
     injection ea_ with ea_ en_ ec_
     subst ea_
     subst ec_
     clear en_
     go_wp2_with (first | ((with_reducible refine gate_builtin (b := .append) (xs := #[.tmp 23, .tmp 29]) rfl ?_); at_builtin; refine Kd.N_append k32 (w0 := w) w.heap.size rfl (.tmp 23) (.tmp 29) 22 32 (.agg #[(.string ⟨#[]⟩), (.int .i64 0), (.int .i64 0), (.slice none 0 0), (.slice none 0 0), (.int .i64 0), (.int .i64 0)]) 96 rfl Tryz.underlying22 info32 rfl (by decide) (by omega) u5 L2 (⟨(rd_T32 l0_2 a0).f0, (⟨(rd_T32 l0_2 a0).f1.f0, (rd_T32 l0_2 a0).f1.f1, (rd_T32 l0_2 a0).f1.f2, (rd_T32 l0_2 a0).f1.f3, (⟨(rd_T32 l0_2 a0).f1.f4.f0, (rd_T32 l0_2 a0).f1.f4.f1⟩ : S28)⟩ : S30)⟩ : S32) [.string ((rd_T32 l0_2 a0).f0), .int .i64 ((rd_T32 l0_2 a0).f1.f0), .int .i64 ((rd_T32 l0_2 a0).f1.f1), .slice N2 ((rd_T32 l0_2 a0).f1.f2).length Y2, .slice Q2 ((rd_T32 l0_2 a0).f1.f3).length Z2, .int .i64 ((rd_T32 l0_2 a0).f1.f4.f0), .int .i64 ((rd_T32 l0_2 a0).f1.f4.f1)] (fun k_ => (m0 k_ ∨ w.heap.size ≤ k_) ∧ k_ ≠ u0) (fun k_ => ((fun k_ => (m0 k_ ∨ w.heap.size ≤ k_) ∧ k_ ≠ u0)) k_ ∧ some k_ ≠ (u5 : Value).ownBlock) rfl rfl ?aP (fun _ hk => hk) ?aF ?aO ?aB ?aS ?aL ?_; (case aP => exact (k32_mkF _ _ (⟨(rd_T32 l0_2 a0).f0, (⟨(rd_T32 l0_2 a0).f1.f0, (rd_T32 l0_2 a0).f1.f1, (rd_T32 l0_2 a0).f1.f2, (rd_T32 l0_2 a0).f1.f3, (⟨(rd_T32 l0_2 a0).f1.f4.f0, (rd_T32 l0_2 a0).f1.f4.f1⟩ : S28)⟩ : S30)⟩ : S32) (Kd.V_reads' (Kd.V_mono (ok' := (fun k_ => ((fun k_ => (m0 k_ ∨ w.heap.size ≤ k_) ∧ k_ ≠ u0)) k_ ∧ some k_ ≠ (u5 : Value).ownBlock)) (Y0.out) (fun k_ hk => ⟨⟨hk.1, hk.2.2⟩, hk.2.1⟩))).2.1 (Kd.V_F (Kd.V_mono (ok' := (fun k_ => ((fun k_ => (m0 k_ ∨ w.heap.size ≤ k_) ∧ k_ ≠ u0)) k_ ∧ some k_ ≠ (u5 : Value).ownBlock)) (Y0.out) (fun k_ hk => ⟨⟨hk.1, hk.2.2⟩, hk.2.1⟩))) (Kd.V_reads' (Kd.V_mono (ok' := (fun k_ => ((fun k_ => (m0 k_ ∨ w.heap.size ≤ k_) ∧ k_ ≠ u0)) k_ ∧ some k_ ≠ (u5 : Value).ownBlock)) (V0.out) (fun k_ hk => ⟨⟨hk.1, hk.2.2⟩, hk.2.1⟩))).2.1 (Kd.V_F (Kd.V_mono (ok' := (fun k_ => ((fun k_ => (m0 k_ ∨ w.heap.size ≤ k_) ∧ k_ ≠ u0)) k_ ∧ some k_ ≠ (u5 : Value).ownBlock)) (V0.out) (fun k_ hk => ⟨⟨hk.1, hk.2.2⟩, hk.2.1⟩))))); (case aB => exact (bh HB)); (case aF => exact (fun k_ hk => ⟨(.inr (Nat.le_trans (below_size (bh HB)) hk)), gFr I0 k_ hk⟩)); (case aO => exact (hN HO_5)); (case aS => exact (below_size (bh HB))); (case aL => have := V4.out; omega); intro j5 w9 ho hb hg hat; rw [← j4.out] at ho; replace HO_293002 := am_ (Kd.V_afterv (ok := (fun k_ => (m0 k_ ∨ w.heap.size ≤ k_) ∧ k_ ≠ u0)) (gV HO_293002) hg hat); replace I0 := tBg I0 hg (Kd.N_ne HO_5.out I0.out (by decide)); replace O1 := am_ (Kd.V_afterv (ok := (fun k_ => (m0 k_ ∨ w.heap.size ≤ k_) ∧ k_ ≠ u0)) (gV O1) hg hat); replace i1 := am_ (Kd.V_afterv (ok := (fun k_ => (m0 k_ ∨ w.heap.size ≤ k_) ∧ k_ ≠ u0)) (gV i1) hg hat); replace Y0 := am_ (Kd.V_afterv (ok := (fun k_ => (m0 k_ ∨ w.heap.size ≤ k_) ∧ k_ ≠ u0)) (gV Y0) hg hat); replace V0 := am_ (Kd.V_afterv (ok := (fun k_ => (m0 k_ ∨ w.heap.size ≤ k_) ∧ k_ ≠ u0)) (gV V0) hg hat); replace HB := am_ hb; have i4 := am_ (ho); clear HO_5 ho hb hg hat))
     go_roundg k1
     case measure => have := L4.out; omega
     case rel => exact ⟨(Z3), (wrap64 (a0 + 1)), fr, H', kS L4, ⟨hN i4⟩, ⟨gV HO_293002⟩, ⟨gB I0⟩, ⟨bh HB⟩⟩
    rw [if_neg c6] at H
    have R4 : (((rd_T32 l0_2 a0).f1.f1) == a1) = false := beq_eq_false_iff_ne.mpr c6
    have Q4 : (((rd_T32 l0_2 a0).f1.f1) != a1) = true := bne_iff_ne.mpr c6
    have H' := am_ H
    clear H
    obtain ⟨_, _, _, _, _, _⟩ := bx3 I0
    have D1 : 0 ≤ (a0 : Int) := dt
    have L1 : a0 < (l0_2.length : Int) := dt
    obtain ⟨U3, N2, Y2, Q2, Z2, X3, Q3, l3, D3, X0, W0, u3, L3, P0, M0, N0, O0⟩ := at_T32 (Kd.V_reads' HO_293002.out).2.2 a0 D1 L1
    cases X3
    obtain ⟨k4, V1, U1, L0⟩ := Kd.V_get HO_293002.out z32 a0 D1 (by first | exact L1 | exact dt | (have e_ := (Kd.V_reads' HO_293002.out).1; omega))
    obtain ⟨I3, i3, m3, J3, rfl, z0, C0, A0, E0⟩ := k32_openF U1
    have n0 := L0 3 _ rfl
    rw [add_field _ _ 3 (by omega)] at n0
    replace n0 := Option.some.inj (n0.symm.trans X0)
    injection n0 with hva_ hvn_ hvc_
    rw [hva_] at C0
    rw [hvc_] at z0
    have O1 := am_ (show Kd.V k107 107 _ w.heap.size _ _ ((rd_T32 l0_2 a0).f1.f2) from Kd.V_mk z0 C0)
    clear hva_ hvn_ hvc_ C0 z0
    have o0 := L0 4 _ rfl
    rw [add_field _ _ 4 (by omega)] at o0
    replace o0 := Option.some.inj (o0.symm.trans W0)
    injection o0 with hva_ hvn_ hvc_
    rw [hva_] at E0
    rw [hvc_] at A0
    have i1 := am_ (show Kd.V Kd.string 9 _ w.heap.size _ _ ((rd_T32 l0_2 a0).f1.f3) from Kd.V_mk A0 E0)
    clear hva_ hvn_ hvc_ E0 A0 L0 V1
    have C3 := am_ M0
    have a3 := am_ P0
    clear M0 P0
    have b3 := am_ O0
    have N3 := am_ N0
    clear O0 N0
    replace D1 := eq_true D1
    replace L1 := eq_true L1
    go_wp2
    go_roundg k1
    case measure => have := L4.out; omega
    case rel => exact ⟨(L2), (wrap64 (a0 + 1)), fr, H', kS L4, ⟨hN HO_5⟩, ⟨hV HO_293002⟩, ⟨gB I0⟩, ⟨bh HB⟩⟩
   rw [if_neg c4] at H
   have Y4 : decide (a0 < (l0_2.length : Int)) = false := decide_eq_false c4
   clear c4
   obtain rfl := Option.some.inj H
   obtain ⟨_, _, _, _, _, _⟩ := bx3 I0
   go_wp2
   go_ret
   exact ⟨_, fe, gN HO_5, bh HB⟩

mutual
def Fc.l0 : Nat → List (S32) → List ByteArray → Int → Int → Int → List (S107) → List ByteArray → Int → Int → Option (List ByteArray)
 | 0, _, _, _, _, _, _, _, _, _ => none
 | k + 1, x5, x6, x7, u0, m0, z0, a0, n0, o0 => if x7 < (a0.length : Int) then (Fc.l1 k x5 x6 x7 false 0 u0 m0 z0 a0 n0 o0) else (some x6)
def Fc.l1 : Nat → List (S32) → List ByteArray → Int → Bool → Int → Int → Int → List (S107) → List ByteArray → Int → Int → Option (List ByteArray)
 | 0, _, _, _, _, _, _, _, _, _, _, _ => none
 | k + 1, x5, x6, x7, x8, x9, u0, m0, z0, a0, n0, o0 => if x9 < (x5.length : Int) then (if x8 = true then (Fc.l1 k x5 x6 x7 true (wrap64 (x9 + 1)) u0 m0 z0 a0 n0 o0) else (if 0 ≤ x9 then (if 0 ≤ x7 then (if x7 < (a0.length : Int) then (Fc.l1 k x5 x6 x7 (((rd_T32 x5 x9).f0).toList == (rdOf ByteArray.empty a0 x7).toList) (wrap64 (x9 + 1)) u0 m0 z0 a0 n0 o0) else (none)) else (none)) else (none))) else (if x8 = true then (Fc.l0 k x5 x6 (wrap64 (x7 + 1)) u0 m0 z0 a0 n0 o0) else (none))
end
def Fc.f (k : Nat) (a0_0 : Int) (a0_1 : Int) (l0_2 : List (S32)) (n0 : Int) (a0 : Int) (A0 : List (S107)) (u0 : List ByteArray) (m0 : Int) (z0 : Int) : Option (List ByteArray) := if (wrap64 (a0 - 1)) ≤ a0_1 then (some ([] : List ByteArray)) else ((F2.f k a0_0 a0_1 l0_2 (wrap64 (a0 - 1))).bind fun o0 => (Fc.l0 k o0 ([] : List ByteArray) 0 n0 a0 A0 u0 m0 z0))
theorem Fc.mono_l : ∀ k, (∀ y0 y1 y2 y3 y4 y5 y6 y7 y8, LeO (Fc.l0 k y0 y1 y2 y3 y4 y5 y6 y7 y8) (Fc.l0 (k + 1) y0 y1 y2 y3 y4 y5 y6 y7 y8)) ∧ (∀ y0 y1 y2 y3 y4 y5 y6 y7 y8 y9 n0, LeO (Fc.l1 k y0 y1 y2 y3 y4 y5 y6 y7 y8 y9 n0) (Fc.l1 (k + 1) y0 y1 y2 y3 y4 y5 y6 y7 y8 y9 n0))
 | 0 => ⟨fun _ _ _ _ _ _ _ _ _ r h => by simp [Fc.l0] at h, fun _ _ _ _ _ _ _ _ _ _ _ r h => by simp [Fc.l1] at h⟩
 | k + 1 => by
  obtain ⟨m0, a0⟩ := Fc.mono_l k
  refine ⟨?_, ?_⟩
  ·
   intro y0 y1 y2 y3 y4 y5 y6 y7 y8
   unfold Fc.l0
   repeat' first | (with_reducible first | exact m0 _ _ _ _ _ _ _ _ _ | exact a0 _ _ _ _ _ _ _ _ _ _ _ | exact F2.mono _ _ _ _ _ | exact LeO.refl _ | exact LeO.none _ | refine LeO.ite ?_ ?_ | refine LeO.bind ?_ (fun _ => ?_)) | exact m0 _ _ _ _ _ _ _ _ _ | exact a0 _ _ _ _ _ _ _ _ _ _ _ | refine LeO.ite ?_ ?_ | refine LeO.bind ?_ (fun _ => ?_)
  intro y0 y1 y2 y3 y4 y5 y6 y7 y8 y9 n0
  unfold Fc.l1
  repeat' first | (with_reducible first | exact m0 _ _ _ _ _ _ _ _ _ | exact a0 _ _ _ _ _ _ _ _ _ _ _ | exact F2.mono _ _ _ _ _ | exact LeO.refl _ | exact LeO.none _ | refine LeO.ite ?_ ?_ | refine LeO.bind ?_ (fun _ => ?_)) | exact m0 _ _ _ _ _ _ _ _ _ | exact a0 _ _ _ _ _ _ _ _ _ _ _ | refine LeO.ite ?_ ?_ | refine LeO.bind ?_ (fun _ => ?_)
theorem Fc.mono : ∀ a0 a1 a2 a3 a4 a5 a6 a7 a8 k, LeO (Fc.f k a0 a1 a2 a3 a4 a5 a6 a7 a8) (Fc.f (k + 1) a0 a1 a2 a3 a4 a5 a6 a7 a8) := by
 intro a0 a1 a2 a3 a4 a5 a6 a7 a8 k
 obtain ⟨n0, m0⟩ := Fc.mono_l k
 unfold Fc.f
 repeat' first | (with_reducible first | exact n0 _ _ _ _ _ _ _ _ _ | exact m0 _ _ _ _ _ _ _ _ _ _ _ | exact F2.mono _ _ _ _ _ | exact LeO.refl _ | exact LeO.none _ | refine LeO.ite ?_ ?_ | refine LeO.bind ?_ (fun _ => ?_)) | exact n0 _ _ _ _ _ _ _ _ _ | exact m0 _ _ _ _ _ _ _ _ _ _ _ | refine LeO.ite ?_ ?_ | refine LeO.bind ?_ (fun _ => ?_)
set_option maxHeartbeats 8000000 in
set_option maxRecDepth 100000 in
theorem Fc.calls (k : Nat) (a0_0 : Int) (a0_1 : Int) (A0_2 : Option Addr) (c0_2 : Nat) (l0_2 : List (S32)) (N0 : Int) (o0 : Int) (Z0 : Option Addr) (Y0 : Nat) (E0 : List (S107)) (i1 : Option Addr) (X0 : Nat) (u0 : List ByteArray) (O0 : Int) (M0 : Int) (r : List ByteArray) (w : World) (hr0_2 : Kd.C k32 w A0_2 l0_2.length l0_2) (hc0_2 : l0_2.length ≤ c0_2) (i4 : Kd.C k107 w Z0 E0.length E0) (j4 : E0.length ≤ Y0) (a4 : Kd.C Kd.string w i1 u0.length u0) (k4 : u0.length ≤ X0) (h : Fc.f k a0_0 a0_1 l0_2 N0 o0 E0 u0 O0 M0 = some r) :
  Calls Tryz.prog 46 #[.agg #[.int .i64 a0_0, .int .i64 a0_1, .slice A0_2 l0_2.length c0_2], .agg #[.int .i64 N0, .int .i64 o0, .slice Z0 E0.length Y0, .slice i1 u0.length X0, .int .i64 O0, .int .i64 M0]] w fun e w' => ∃ c6 : Value, e = .returned (c6) ∧ Kd.R Kd.string 9 w' w.heap.size (fun _ => True) c6 r ∧ Below w.heap.size w w' := by
 have s6 := Tryz.underlying24
 have C6 := Tryz.underlying30
 have L3 := am_ hr0_2
 have D2 := am_ hc0_2
 clear hr0_2 hc0_2
 have V5 := am_ i4
 have a6 := am_ j4
 clear i4 j4
 have S4 := am_ a4
 have Z5 := am_ k4
 clear a4 k4
 have HB := am_ (Below.refl w.heap.size w)
 have H : (if (wrap64 (o0 - 1)) ≤ a0_1 then (some ([] : List ByteArray)) else ((F2.f k a0_0 a0_1 l0_2 (wrap64 (o0 - 1))).bind fun I0 => (Fc.l0 k I0 ([] : List ByteArray) 0 N0 o0 E0 u0 O0 M0))) = some r := h
 clear h
 by_cases c3 : (wrap64 (o0 - 1)) ≤ a0_1
 ·
  rw [if_pos c3] at H
  have Y4 : decide ((wrap64 (o0 - 1)) ≤ a0_1) = true := decide_eq_true c3
  clear c3
  obtain rfl := Option.some.inj H
  go_enter Tryz.func46, Tryz.ntmps46
  go_wp2_with (first | ((with_reducible refine gd_ 2 ?_); refine be_ 2 #[.int .i64 a0_0, .int .i64 a0_1, .slice A0_2 l0_2.length c0_2] 24 ?_; intro C0 hg w4 hbox hb; have a0 := am_ hbox; have P0 := tG HB hg; have O1 := tG HB hg; replace HB := tHb HB hb; clear hb hbox hg) | ((with_reducible refine gd_ 3 ?_); refine be_ 3 #[.int .i64 N0, .int .i64 o0, .slice Z0 E0.length Y0, .slice i1 u0.length X0, .int .i64 O0, .int .i64 M0] 30 ?_; intro A0 hg w5 hbox hb; have n0 := am_ hbox; have Q0 := tG HB hg; have Q1 := tG HB hg; replace HB := tHb HB hb; obtain ⟨z0, m0⟩ := tN a0 hg; replace a0 := tBb a0 hb; clear hb hbox hg; obtain ⟨_, _⟩ := n2 m0; obtain ⟨_, _, _, _, _, _, _, _, _, _, _, _⟩ := bx6 n0; obtain ⟨_, _, _, _, _, _⟩ := bx3 a0))
  (try simp only [Act.put, List.setIfInBounds_toArray, List.set_cons_zero, List.set_cons_succ])
  repeat (go_quiet (first | ((with_reducible refine gd_ 2 ?_); refine be_ 2 #[.int .i64 a0_0, .int .i64 a0_1, .slice A0_2 l0_2.length c0_2] 24 ?_; intro C0 hg w4 hbox hb; have a0 := am_ hbox; have P0 := tG HB hg; have O1 := tG HB hg; replace HB := tHb HB hb; clear hb hbox hg) | ((with_reducible refine gd_ 3 ?_); refine be_ 3 #[.int .i64 N0, .int .i64 o0, .slice Z0 E0.length Y0, .slice i1 u0.length X0, .int .i64 O0, .int .i64 M0] 30 ?_; intro A0 hg w5 hbox hb; have n0 := am_ hbox; have Q0 := tG HB hg; have Q1 := tG HB hg; replace HB := tHb HB hb; obtain ⟨z0, m0⟩ := tN a0 hg; replace a0 := tBb a0 hb; clear hb hbox hg; obtain ⟨_, _⟩ := n2 m0; obtain ⟨_, _, _, _, _, _, _, _, _, _, _, _⟩ := bx6 n0; obtain ⟨_, _, _, _, _, _⟩ := bx3 a0)); try go_wp2_with (first | ((with_reducible refine gd_ 2 ?_); refine be_ 2 #[.int .i64 a0_0, .int .i64 a0_1, .slice A0_2 l0_2.length c0_2] 24 ?_; intro C0 hg w4 hbox hb; have a0 := am_ hbox; have P0 := tG HB hg; have O1 := tG HB hg; replace HB := tHb HB hb; clear hb hbox hg) | ((with_reducible refine gd_ 3 ?_); refine be_ 3 #[.int .i64 N0, .int .i64 o0, .slice Z0 E0.length Y0, .slice i1 u0.length X0, .int .i64 O0, .int .i64 M0] 30 ?_; intro A0 hg w5 hbox hb; have n0 := am_ hbox; have Q0 := tG HB hg; have Q1 := tG HB hg; replace HB := tHb HB hb; obtain ⟨z0, m0⟩ := tN a0 hg; replace a0 := tBb a0 hb; clear hb hbox hg; obtain ⟨_, _⟩ := n2 m0; obtain ⟨_, _, _, _, _, _, _, _, _, _, _, _⟩ := bx6 n0; obtain ⟨_, _, _, _, _, _⟩ := bx3 a0)))
  go_ret
  exact ⟨_, fe, kn, bh HB⟩
 rw [if_neg c3] at H
 have Y4 : decide ((wrap64 (o0 - 1)) ≤ a0_1) = false := decide_eq_false c3
 clear c3
 replace H := Option.bind_eq_some_iff.mp H
 obtain ⟨I0, i6, H⟩ := H
 try dsimp only at H
 have A9 := am_ i6
 clear i6
 have H' := am_ H
 clear H
 go_enter Tryz.func46, Tryz.ntmps46
 go_wp2_with (first | ((with_reducible refine gd_ 2 ?_); refine be_ 2 #[.int .i64 a0_0, .int .i64 a0_1, .slice A0_2 l0_2.length c0_2] 24 ?_; intro C0 hg l6 hbox hb; have a0 := am_ hbox; have P0 := tG HB hg; have O1 := tG HB hg; replace HB := tHb HB hb; clear hb hbox hg) | ((with_reducible refine gd_ 3 ?_); refine be_ 3 #[.int .i64 N0, .int .i64 o0, .slice Z0 E0.length Y0, .slice i1 u0.length X0, .int .i64 O0, .int .i64 M0] 30 ?_; intro A0 hg W5 hbox hb; have n0 := am_ hbox; have Q0 := tG HB hg; have Q1 := tG HB hg; replace HB := tHb HB hb; obtain ⟨z0, m0⟩ := tN a0 hg; replace a0 := tBb a0 hb; clear hb hbox hg; obtain ⟨_, _⟩ := n2 m0; obtain ⟨a3, m3, L2, i3, u3, D3, I3, Q3, N2, N3, J2, Z2⟩ := bx6 n0; obtain ⟨l3, J3, C3, Q2, b3, Y2⟩ := bx3 a0) | (go_at_call 36; (with_reducible refine (F2.calls k a0_0 a0_1 (fun k_ => k_ < w.heap.size) _ _ l0_2 (wrap64 (o0 - 1)) I0 _ ?P1 A9.out).mono ?_); (case P1 => exact Kd.V_mk D2.out (Kd.F_below (Kd.C_F k32_heap L3.out) (bh HB))); rintro e b6 ⟨V3, rfl, Y3, hb⟩; have V2 := loN (fun k_ => k_ ≠ C0 ∧ k_ ≠ A0) Y3 (fun k_ hk_ => ⟨oe P0 a0 hk_, oe Q0 n0 hk_⟩) HB; replace a0 := tBb a0 hb; replace n0 := tBb n0 hb; replace HB := tHb HB hb; (try clear hb Y3)))
 (try simp only [Act.put, List.setIfInBounds_toArray, List.set_cons_zero, List.set_cons_succ])
 repeat (go_quiet (first | ((with_reducible refine gd_ 2 ?_); refine be_ 2 #[.int .i64 a0_0, .int .i64 a0_1, .slice A0_2 l0_2.length c0_2] 24 ?_; intro C0 hg l6 hbox hb; have a0 := am_ hbox; have P0 := tG HB hg; have O1 := tG HB hg; replace HB := tHb HB hb; clear hb hbox hg) | ((with_reducible refine gd_ 3 ?_); refine be_ 3 #[.int .i64 N0, .int .i64 o0, .slice Z0 E0.length Y0, .slice i1 u0.length X0, .int .i64 O0, .int .i64 M0] 30 ?_; intro A0 hg W5 hbox hb; have n0 := am_ hbox; have Q0 := tG HB hg; have Q1 := tG HB hg; replace HB := tHb HB hb; obtain ⟨z0, m0⟩ := tN a0 hg; replace a0 := tBb a0 hb; clear hb hbox hg; obtain ⟨_, _⟩ := n2 m0; obtain ⟨a3, m3, L2, i3, u3, D3, I3, Q3, N2, N3, J2, Z2⟩ := bx6 n0; obtain ⟨l3, J3, C3, Q2, b3, Y2⟩ := bx3 a0) | (go_at_call 36; (with_reducible refine (F2.calls k a0_0 a0_1 (fun k_ => k_ < w.heap.size) _ _ l0_2 (wrap64 (o0 - 1)) I0 _ ?P1 A9.out).mono ?_); (case P1 => exact Kd.V_mk D2.out (Kd.F_below (Kd.C_F k32_heap L3.out) (bh HB))); rintro e b6 ⟨V3, rfl, Y3, hb⟩; have V2 := loN (fun k_ => k_ ≠ C0 ∧ k_ ≠ A0) Y3 (fun k_ hk_ => ⟨oe P0 a0 hk_, oe Q0 n0 hk_⟩) HB; replace a0 := tBb a0 hb; replace n0 := tBb n0 hb; replace HB := tHb HB hb; (try clear hb Y3))); try go_wp2_with (first | ((with_reducible refine gd_ 2 ?_); refine be_ 2 #[.int .i64 a0_0, .int .i64 a0_1, .slice A0_2 l0_2.length c0_2] 24 ?_; intro C0 hg l6 hbox hb; have a0 := am_ hbox; have P0 := tG HB hg; have O1 := tG HB hg; replace HB := tHb HB hb; clear hb hbox hg) | ((with_reducible refine gd_ 3 ?_); refine be_ 3 #[.int .i64 N0, .int .i64 o0, .slice Z0 E0.length Y0, .slice i1 u0.length X0, .int .i64 O0, .int .i64 M0] 30 ?_; intro A0 hg W5 hbox hb; have n0 := am_ hbox; have Q0 := tG HB hg; have Q1 := tG HB hg; replace HB := tHb HB hb; obtain ⟨z0, m0⟩ := tN a0 hg; replace a0 := tBb a0 hb; clear hb hbox hg; obtain ⟨_, _⟩ := n2 m0; obtain ⟨a3, m3, L2, i3, u3, D3, I3, Q3, N2, N3, J2, Z2⟩ := bx6 n0; obtain ⟨l3, J3, C3, Q2, b3, Y2⟩ := bx3 a0) | (go_at_call 36; (with_reducible refine (F2.calls k a0_0 a0_1 (fun k_ => k_ < w.heap.size) _ _ l0_2 (wrap64 (o0 - 1)) I0 _ ?P1 A9.out).mono ?_); (case P1 => exact Kd.V_mk D2.out (Kd.F_below (Kd.C_F k32_heap L3.out) (bh HB))); rintro e b6 ⟨V3, rfl, Y3, hb⟩; have V2 := loN (fun k_ => k_ ≠ C0 ∧ k_ ≠ A0) Y3 (fun k_ hk_ => ⟨oe P0 a0 hk_, oe Q0 n0 hk_⟩) HB; replace a0 := tBb a0 hb; replace n0 := tBb n0 hb; replace HB := tHb HB hb; (try clear hb Y3))))
 go_loopg [6, 7] k (fun kq v6 v7 w' => ∃ (C2 : List ByteArray) (U0 : Int), v7 = .int .i64 U0 ∧ Asc (Fc.l0 kq I0 C2 U0 N0 o0 E0 u0 O0 M0 = some r) ∧ Asc (kq ≤ k) ∧ Asc (Kd.N k32 32 w' w.heap.size (fun k_ => some k_ ≠ (v6 : Value).ownBlock ∧ k_ ≠ C0 ∧ k_ ≠ A0) V3 I0) ∧ Asc (Kd.R Kd.string 9 w' w.heap.size (fun _ => True) v6 C2) ∧ Asc (w'.heap[C0]? = some (.cells #[.int .i64 a0_0, .int .i64 a0_1, (.slice A0_2 l0_2.length c0_2)] 24 (0, 0))) ∧ Asc (w'.heap[A0]? = some (.cells #[.int .i64 N0, .int .i64 o0, (.slice Z0 E0.length Y0), (.slice i1 u0.length X0), .int .i64 O0, .int .i64 M0] 30 (0, 0))) ∧ Asc (Below w.heap.size w w'))
 case atStart => exact ⟨(([] : List ByteArray)), (0), fr, H', ⟨Nat.le_refl _⟩, ⟨gN V2⟩, ⟨kn⟩, ⟨gB a0⟩, ⟨gB n0⟩, ⟨bh HB⟩⟩
 case round =>
  clear H'
  try clear Y4 a3 m3 L2 i3 u3 D3 l3 J3 C3 I3 Q3 N2 N3 J2 Z2 Q2 b3 Y2
  obtain ⟨C2, U0, rfl, HA, I4, HO_5, HO_6, a0, n0, HB⟩ := hrel
  cases gk with
  | zero => exact absurd HA.out (by simp [Fc.l0])
  | succ k1 =>
   have H := HA.out
   clear HA
   simp only [Fc.l0] at H
   by_cases E4 : U0 < (u0.length : Int)
   ·
    rw [if_pos E4] at H
    have Z3 : decide (U0 < (u0.length : Int)) = true := decide_eq_true E4
    clear E4
    have H' := am_ H
    clear H
    obtain ⟨_, _⟩ := n2 m0
    obtain ⟨V4, L4, W4, Q4, M4, J4, N4, U4, O4, K4, R4, X4⟩ := bx6 n0
    go_wp2
    repeat (go_quiet (fail); try go_wp2)
    go_loopg [8, 9] k1 (fun kq v8 v9 w' => ∃ (k3 : Bool) (L0 : Int), v8 = .bool k3 ∧ v9 = .int .i64 L0 ∧ Asc (Fc.l1 kq I0 C2 U0 k3 L0 N0 o0 E0 u0 O0 M0 = some r) ∧ Asc (kq ≤ k1) ∧ Asc (Kd.N k32 32 w' w.heap.size (fun k_ => some k_ ≠ (u6 : Value).ownBlock ∧ k_ ≠ C0 ∧ k_ ≠ A0) V3 I0) ∧ Asc (Kd.R Kd.string 9 w' w.heap.size (fun _ => True) u6 C2) ∧ Asc (w'.heap[C0]? = some (.cells #[.int .i64 a0_0, .int .i64 a0_1, (.slice A0_2 l0_2.length c0_2)] 24 (0, 0))) ∧ Asc (w'.heap[A0]? = some (.cells #[.int .i64 N0, .int .i64 o0, (.slice Z0 E0.length Y0), (.slice i1 u0.length X0), .int .i64 O0, .int .i64 M0] 30 (0, 0))) ∧ Asc (Below w.heap.size w w'))
    case atStart => exact ⟨(false), (0), fr, fr, H', ⟨Nat.le_refl _⟩, ⟨hN HO_5⟩, ⟨hR HO_6⟩, ⟨gB a0⟩, ⟨gB n0⟩, ⟨bh HB⟩⟩
    case round =>
     clear H'
     try clear Z3 V4 L4 W4 Q4 M4 J4 N4 U4 O4 K4 R4 X4
     obtain ⟨k3, L0, rfl, rfl, HA, D4, HO_5, HO_6, a0, n0, HB⟩ := hrel
     cases gk with
     | zero => exact absurd HA.out (by simp [Fc.l1])
     | succ k2 =>
      have H := HA.out
      clear HA
      simp only [Fc.l1] at H
      by_cases C4 : L0 < (I0.length : Int)
      ·
       rw [if_pos C4] at H
       have P4 : decide (L0 < (I0.length : Int)) = true := decide_eq_true C4
       clear C4
       by_cases j5 : k3 = true
       ·
        subst j5
        rw [if_pos rfl] at H
        have H' := am_ H
        clear H
        obtain ⟨A6, p6, S5⟩ := Kd.N_slice HO_5.out
        subst S5
        go_wp2
        repeat (go_quiet (fail); try go_wp2)
        go_roundg k2
        case measure => have := I4.out; have := D4.out; omega
        case rel => exact ⟨(true), (wrap64 (L0 + 1)), fr, fr, H', ⟨by have := I4.out; have := D4.out; omega⟩, ⟨hN HO_5⟩, ⟨hR HO_6⟩, ⟨gB a0⟩, ⟨gB n0⟩, ⟨bh HB⟩⟩
       replace j5 := Bool.eq_false_iff.mpr j5
       subst j5
       rw [if_neg (show ¬ (false = true) by decide)] at H
       revert H
       refine gi (fun U5 H => ?_)
       revert H
       refine gi (fun k6 H => ?_)
       revert H
       refine gi (fun Y5 H => ?_)
       have H' := am_ H
       clear H
       obtain ⟨z6, q6, P5⟩ := Kd.N_slice HO_5.out
       subst P5
       have S3 : 0 ≤ (L0 : Int) := dt
       have U3 : L0 < (I0.length : Int) := dt
       obtain ⟨j6, O5, L5, M5, K5, Q5, m5, E5, D5, X3, W3, s5, A5, Y1, Z1, i2, V1⟩ := at_T32 (Kd.N_reads' HO_5.out).2.2 L0 S3 U3
       cases Q5
       obtain ⟨m6, u4, l4, U1⟩ := Kd.N_get HO_5.out z32 L0 S3 (by first | exact U3 | exact dt | (have e_ := (Kd.N_reads' HO_5.out).1; omega))
       obtain ⟨J5, Z4, b5, i5, rfl, C1, L1, D1, N1⟩ := k32_openF l4
       have V0 := U1 3 _ rfl
       rw [add_field _ _ 3 (by omega)] at V0
       replace V0 := Option.some.inj (V0.symm.trans X3)
       injection V0 with hva_ hvn_ hvc_
       rw [hva_] at L1
       rw [hvc_] at C1
       have a5 := am_ (show Kd.V k107 107 _ w.heap.size _ _ ((rd_T32 I0 L0).f1.f2) from Kd.V_mk C1 L1)
       clear hva_ hvn_ hvc_ L1 C1
       have W0 := U1 4 _ rfl
       rw [add_field _ _ 4 (by omega)] at W0
       replace W0 := Option.some.inj (W0.symm.trans W3)
       injection W0 with hva_ hvn_ hvc_
       rw [hva_] at N1
       rw [hvc_] at D1
       have C5 := am_ (show Kd.V Kd.string 9 _ w.heap.size _ _ ((rd_T32 I0 L0).f1.f3) from Kd.V_mk D1 N1)
       clear hva_ hvn_ hvc_ N1 D1 U1 u4
       have c5 := am_ Z1
       have p5 := am_ Y1
       clear Z1 Y1
       have I5 := am_ V1
       have k5 := am_ i2
       clear V1 i2
       replace S3 := eq_true S3
       replace U3 := eq_true U3
       obtain ⟨_, _⟩ := n2 m0
       obtain ⟨_, _, _, _, _, _, _, _, _, _, _, _⟩ := bx6 n0
       have s4 : 0 ≤ (U0 : Int) := dt
       have m4 : U0 < (u0.length : Int) := dt
       obtain ⟨X5, R5, X1⟩ := Kd.at_string S4.out U0 s4 m4
       cases R5
       replace X1 := ce HB X1
       replace s4 := eq_true s4
       replace m4 := eq_true m4
       go_wp2
       repeat (go_quiet (fail); try go_wp2)
       go_roundg k2
       case measure => have := I4.out; have := D4.out; omega
       case rel => exact ⟨((((rd_T32 I0 L0).f0).toList == (rdOf ByteArray.empty u0 U0).toList)), (wrap64 (L0 + 1)), fr, fr, H', ⟨by have := I4.out; have := D4.out; omega⟩, ⟨hN HO_5⟩, ⟨hR HO_6⟩, ⟨gB a0⟩, ⟨gB n0⟩, ⟨bh HB⟩⟩
      rw [if_neg C4] at H
      have P4 : decide (L0 < (I0.length : Int)) = false := decide_eq_false C4
      clear C4
      by_cases l5 : k3 = true
      ·
       subst l5
       rw [if_pos rfl] at H
       have H' := am_ H
       clear H
       obtain ⟨r6, o6, N5⟩ := Kd.N_slice HO_5.out
       subst N5
       go_wp2
       repeat (go_quiet (fail); try go_wp2)
       go_roundg k2
       case measure => have := I4.out; have := D4.out; omega
       case rel => exact ⟨(C2), (wrap64 (U0 + 1)), fr, H', ⟨by have := I4.out; have := D4.out; omega⟩, ⟨hN HO_5⟩, ⟨hR HO_6⟩, ⟨gB a0⟩, ⟨gB n0⟩, ⟨bh HB⟩⟩
      replace l5 := Bool.eq_false_iff.mpr l5
      subst l5
      have H1 : (none) = some r := by rw [if_neg (show ¬ (false = true) by decide)] at H; exact H
      exact absurd H1 (by simp)
   rw [if_neg E4] at H
   have Z3 : decide (U0 < (u0.length : Int)) = false := decide_eq_false E4
   clear E4
   obtain rfl := Option.some.inj H
   obtain ⟨_, _⟩ := n2 m0
   obtain ⟨_, _, _, _, _, _, _, _, _, _, _, _⟩ := bx6 n0
   go_wp2
   repeat (go_quiet (fail); try go_wp2)
   go_ret
   exact ⟨_, fe, hR HO_6, bh HB⟩

def H7.f (a0_0 : Int) (a0_1 : Int) (l0_2 : List (S107)) (n0 : List ByteArray) (E0 : Int) (u0 : Int) (m0 : Int) (a0 : Int) (C0 : List (S107)) (z0 : List ByteArray) (o0 : Int) (A0 : Int) : Option (Bool) := if a0_1 = a0 then (some (decide (a0_0 < m0))) else (some (decide (a0_1 < a0)))
set_option maxHeartbeats 8000000 in
set_option maxRecDepth 100000 in
theorem H7.calls (a0_0 : Int) (a0_1 : Int) (A0_2 : Option Addr) (c0_2 : Nat) (l0_2 : List (S107)) (V0 : Option Addr) (L0 : Nat) (o0 : List ByteArray) (W0 : Int) (U0 : Int) (E0 : Int) (n0 : Int) (P0 : Option Addr) (Q0 : Nat) (u0 : List (S107)) (M0 : Option Addr) (N0 : Nat) (z0 : List ByteArray) (I0 : Int) (O0 : Int) (r : Bool) (w : World) (hr0_2 : Kd.C k107 w A0_2 l0_2.length l0_2) (hc0_2 : l0_2.length ≤ c0_2) (D1 : Kd.C Kd.string w V0 o0.length o0) (X0 : o0.length ≤ L0) (i1 : Kd.C k107 w P0 u0.length u0) (Z0 : u0.length ≤ Q0) (Y0 : Kd.C Kd.string w M0 z0.length z0) (C1 : z0.length ≤ N0) (h : H7.f a0_0 a0_1 l0_2 o0 W0 U0 E0 n0 u0 z0 I0 O0 = some r) :
  Calls Tryz.prog 47 #[.agg #[.int .i64 a0_0, .int .i64 a0_1, .slice A0_2 l0_2.length c0_2, .slice V0 o0.length L0, .int .i64 W0, .int .i64 U0], .agg #[.int .i64 E0, .int .i64 n0, .slice P0 u0.length Q0, .slice M0 z0.length N0, .int .i64 I0, .int .i64 O0]] w fun e w' => e = .returned (.bool r) ∧ Below w.heap.size w w' := by
 have D3 := Tryz.underlying30
 have b3 := am_ hr0_2
 have Y1 := am_ hc0_2
 clear hr0_2 hc0_2
 have D2 := am_ D1
 have C2 := am_ X0
 clear D1 X0
 have L2 := am_ i1
 have N2 := am_ Z0
 clear i1 Z0
 have Z1 := am_ Y0
 have J2 := am_ C1
 clear Y0 C1
 have HB := am_ (Below.refl w.heap.size w)
 have H : (if a0_1 = n0 then (some (decide (a0_0 < E0))) else (some (decide (a0_1 < n0)))) = some r := h
 clear h
 by_cases c3 : a0_1 = n0
 ·
  rw [if_pos c3] at H
  have X1 : (a0_1 == n0) = true := beq_iff_eq.mpr c3
  have V1 : (a0_1 != n0) = false := bne_eq_false_iff_eq.mpr c3
  clear c3
  obtain rfl := Option.some.inj H
  go_enter Tryz.func47, Tryz.ntmps47
  go_wp2_with (first | ((with_reducible refine gd_ 2 ?_); refine be_ 2 #[.int .i64 a0_0, .int .i64 a0_1, .slice A0_2 l0_2.length c0_2, .slice V0 o0.length L0, .int .i64 W0, .int .i64 U0] 30 ?_; intro O1 hg w4 hbox hb; have a0 := am_ hbox; have Q1 := tG HB hg; have N1 := tG HB hg; replace HB := tHb HB hb; clear hb hbox hg) | ((with_reducible refine gd_ 3 ?_); refine be_ 3 #[.int .i64 E0, .int .i64 n0, .slice P0 u0.length Q0, .slice M0 z0.length N0, .int .i64 I0, .int .i64 O0] 30 ?_; intro L1 hg w5 hbox hb; have C0 := am_ hbox; have P1 := tG HB hg; have U1 := tG HB hg; replace HB := tHb HB hb; obtain ⟨m0, A0⟩ := tN a0 hg; replace a0 := tBb a0 hb; clear hb hbox hg; obtain ⟨_, _⟩ := n2 m0; obtain ⟨_, _, _, _, _, _, _, _, _, _, _, _⟩ := bx6 a0; obtain ⟨_, _, _, _, _, _, _, _, _, _, _, _⟩ := bx6 C0))
  go_ret
  exact ⟨fe, bh HB⟩
 rw [if_neg c3] at H
 have X1 : (a0_1 == n0) = false := beq_eq_false_iff_ne.mpr c3
 have V1 : (a0_1 != n0) = true := bne_iff_ne.mpr c3
 obtain rfl := Option.some.inj H
 go_enter Tryz.func47, Tryz.ntmps47
 go_wp2_with (first | ((with_reducible refine gd_ 2 ?_); refine be_ 2 #[.int .i64 a0_0, .int .i64 a0_1, .slice A0_2 l0_2.length c0_2, .slice V0 o0.length L0, .int .i64 W0, .int .i64 U0] 30 ?_; intro O1 hg w9 hbox hb; have a0 := am_ hbox; have Q1 := tG HB hg; have N1 := tG HB hg; replace HB := tHb HB hb; clear hb hbox hg) | ((with_reducible refine gd_ 3 ?_); refine be_ 3 #[.int .i64 E0, .int .i64 n0, .slice P0 u0.length Q0, .slice M0 z0.length N0, .int .i64 I0, .int .i64 O0] 30 ?_; intro L1 hg I3 hbox hb; have C0 := am_ hbox; have P1 := tG HB hg; have U1 := tG HB hg; replace HB := tHb HB hb; obtain ⟨m0, A0⟩ := tN a0 hg; replace a0 := tBb a0 hb; clear hb hbox hg; obtain ⟨_, _⟩ := n2 m0; obtain ⟨_, _, _, _, _, _, _, _, _, _, _, _⟩ := bx6 a0; obtain ⟨i2, a3, i3, Z2, u3, Q2, V2, m3, l3, k3, Y2, C3⟩ := bx6 C0))
 go_ret
 exact ⟨fe, bh HB⟩

end Go.Proofs.YtopijobdblfhoaaGreat.PTuskAsks
