-- written by a program of this session (pp.py), out of the kit's print and this session's contracts
import Derived.Test.YtcbfnmabckjijaaPOrderTurnsx0
import Derived.Test.YtcbfnmabckjijaaVOrderTurnsPg
namespace Go.Proofs.Ytcbfnmabckjijaa.POrderTurns
open Go.RowKit Go.Proofs.YtcbfnmabckjijaaW.PrintWords Go.Proofs.YtcbfnmabckjijaaW.PrintLast Go.Proofs.YtcbfnmabckjijaaW.PrintMore
set_option linter.unusedVariables false
set_option linter.unusedSimpArgs false

def selvedgeref11_Round.l0 : Nat → Int → List (S37) → Int → Int → Int → List (S37) → Option ((List (S37)))
 | 0, _, _, _, _, _, _ => none
 | k + 1, x1, x5, x6, x191000, x191001, x191002 => if x6 < (x191002.length : Int) then (if 0 ≤ x6 then (if ((rd_T37 x191002 x6).f1.f1) = x1 then (if x5.length < 1466015503701 then (selvedgeref11_Round.l0 k x1 (x5 ++ [(⟨(rd_T37 x191002 x6).f0, (⟨(rd_T37 x191002 x6).f1.f0, (rd_T37 x191002 x6).f1.f1, (rd_T37 x191002 x6).f1.f2, (rd_T37 x191002 x6).f1.f3, (⟨(rd_T37 x191002 x6).f1.f4.f0, (rd_T37 x191002 x6).f1.f4.f1⟩ : S33)⟩ : S35)⟩ : S37)]) (wrap64 (x6 + 1)) x191000 x191001 x191002) else (none)) else (selvedgeref11_Round.l0 k x1 x5 (wrap64 (x6 + 1)) x191000 x191001 x191002)) else (none)) else (some x5)
def selvedgeref11_Round.f (k : Nat) (a0_0 : Int) (a0_1 : Int) (l0_2 : List (S37)) (a1 : Int) : Option ((List (S37))) := selvedgeref11_Round.l0 k a1 ([] : List (S37)) 0 a0_0 a0_1 l0_2
set_option maxHeartbeats 8000000 in
set_option maxRecDepth 100000 in
theorem selvedgeref11_Round.calls (k : Nat) (a0_0 : Int) (a0_1 : Int) (P0_2_ : Nat → Prop) (A0_2 : Option Addr) (c0_2 : Nat) (l0_2 : List (S37)) (a1 : Int) (r : List (S37)) (w : World) (hs0_2 : Kd.V k37 37 w w.heap.size (fun k_ => P0_2_ k_) (.slice A0_2 l0_2.length c0_2) l0_2) (h : selvedgeref11_Round.f k a0_0 a0_1 l0_2 a1 = some r) :
  Calls Try.prog 62 #[.agg #[.int .i64 a0_0, .int .i64 a0_1, .slice A0_2 l0_2.length c0_2], .int .i64 a1] w fun e w' => ∃ v0_ : Value, e = .returned (v0_) ∧ Kd.N k37 37 w' w.heap.size (fun k_ => (P0_2_ k_ ∨ w.heap.size ≤ k_)) v0_ r ∧ Below w.heap.size w w' := by
 have hu24 := Try.underlying24
 have hu37 := Try.underlying37
 have HO0_2 := am_ (show Kd.V k37 37 w w.heap.size (fun k_ => (P0_2_ k_ ∨ w.heap.size ≤ k_)) (.slice A0_2 l0_2.length c0_2) l0_2 from Kd.V_mono hs0_2 (fun k_ hk => .inl hk))
 have HB := am_ (Below.refl w.heap.size w)
 have H : (selvedgeref11_Round.l0 k a1 ([] : List (S37)) 0 a0_0 a0_1 l0_2) = some r := h
 clear h
 have H' := am_ H
 clear H
 go_enter Try.func62, Try.ntmps62
 go_wp2_with (first | ((with_reducible refine gate_dst (N := 2) rfl ?_); refine box_event ?hg (N := 2) ?hd (cs := #[.int .i64 a0_0, .int .i64 a0_1, .slice A0_2 l0_2.length c0_2]) (t := 24) ?hr ?_; (case hd => rfl); (case hg => rfl); (case hr => first | (go_simp; done) | (go_simp; rfl)); intro gb190 hg w3 hbox hb; replace HO0_2 := tVe HO0_2 hg hb; have BK190 := am_ hbox; have GW190 := tG HB hg; have GE190 := tG HB hg; replace HB := tHb HB hb; clear hb hbox hg))
 go_loopg [5, 6] k (fun kq v5 v6 w' => ∃ (x5_1 : List (S37)) (x6_1 : Int), v6 = .int .i64 x6_1 ∧ Asc (selvedgeref11_Round.l0 kq a1 x5_1 x6_1 a0_0 a0_1 l0_2 = some r) ∧ Asc (kq ≤ k) ∧ Asc (Kd.N k37 37 w' w.heap.size (fun k_ => (P0_2_ k_ ∨ w.heap.size ≤ k_) ∧ k_ ≠ gb190) v5 x5_1) ∧ Asc (Kd.V k37 37 w' w.heap.size (fun k_ => (P0_2_ k_ ∨ w.heap.size ≤ k_) ∧ some k_ ≠ (v5 : Value).ownBlock ∧ k_ ≠ gb190) (.slice A0_2 l0_2.length c0_2) l0_2) ∧ Asc (w'.heap[gb190]? = some (.cells #[.int .i64 a0_0, .int .i64 a0_1, (.slice A0_2 l0_2.length c0_2)] 24 (0, 0))) ∧ Asc (Below w.heap.size w w'))
 case atStart => exact ⟨(([] : List (S37))), (0), (by first | rfl | (simp; done) | (simp [*]; done)), H', ⟨Nat.le_refl _⟩, ⟨by first | exact Kd.R_nil _ _ _ _ _ | exact Kd.N_nil _ _ _ _ _ | exact Kd.V_nil _ _ _ _ _ | exact Kd.Q_nil _ _ _ _ _ | exact Kd.S_nil _ _ _ _ _⟩, ⟨gV HO0_2⟩, ⟨gB BK190⟩, ⟨bh HB⟩⟩
 case round =>
  clear H'
  obtain ⟨x5_1, x6_1, rfl, HA, HK1, HO_5, HO_191002, BK190, HB⟩ := hrel
  cases gk with
  | zero => exact absurd HA.out (by simp [selvedgeref11_Round.l0])
  | succ k1 =>
   have H := HA.out
   clear HA
   simp only [selvedgeref11_Round.l0] at H
   by_cases c4 : x6_1 < (l0_2.length : Int)
   ·
    rw [if_pos c4] at H
    have c4b0 : decide (x6_1 < (l0_2.length : Int)) = true := decide_eq_true c4
    clear c4
    revert H
    refine gi (fun c5b0 H => ?_)
    by_cases c6 : ((rd_T37 l0_2 x6_1).f1.f1) = a1
    ·
     rw [if_pos c6] at H
     have c6b0 : (((rd_T37 l0_2 x6_1).f1.f1) == a1) = true := beq_iff_eq.mpr c6
     have c6b1 : (((rd_T37 l0_2 x6_1).f1.f1) != a1) = false := bne_eq_false_iff_eq.mpr c6
     clear c6
     revert H
     refine gi' (fun c7 H => ?_)
     have LMc7 := am_ c7
     clear c7
     obtain ⟨y193, hy193⟩ : ∃ y_ : List (S37), y_ = (x5_1 ++ [(⟨(rd_T37 l0_2 x6_1).f0, (⟨(rd_T37 l0_2 x6_1).f1.f0, (rd_T37 l0_2 x6_1).f1.f1, (rd_T37 l0_2 x6_1).f1.f2, (rd_T37 l0_2 x6_1).f1.f3, (⟨(rd_T37 l0_2 x6_1).f1.f4.f0, (rd_T37 l0_2 x6_1).f1.f4.f1⟩ : S33)⟩ : S35)⟩ : S37)]) := ⟨_, rfl⟩
     replace H : (selvedgeref11_Round.l0 k1 a1 y193 (wrap64 (x6_1 + 1)) a0_0 a0_1 l0_2) = some r := by first | (rw [hy193]; with_reducible exact H) | (have H2_ := (Option.bind_some _ _).symm.trans H; rw [hy193]; with_reducible exact H2_) | (have H2_ := (Option.bind_some _ _).symm.trans H; with_reducible exact H2_) | with_reducible exact H | (rw [hy193]; exact H) | exact H
     have Ny193 := am_ hy193
     clear hy193
     have H' := am_ H
     clear H
     obtain ⟨hcz8_0, hcz8_1, hcz8_2, hfz8_0, hfz8_1, hfz8_2⟩ := bx3 BK190
     have p191 : 0 ≤ (x6_1 : Int) := of_decide_eq_true ‹_›
     have q191 : x6_1 < (l0_2.length : Int) := of_decide_eq_true ‹_›
     obtain ⟨ad191, A191_3, c191_3, A191_4, c191_4, e191, hx191_0, hx191_1, hx191_2, hx191_3, hx191_4, hx191_5, hx191_6, hl191_3, hi191_3, hl191_4, hi191_4⟩ := at_T37 (Kd.V_reads' HO_191002.out).2.2 x6_1 p191 q191
     cases e191
     obtain ⟨ce191, hce191, hMe191, hcc191⟩ := Kd.V_get HO_191002.out z37 x6_1 p191 (by first | exact q191 | exact of_decide_eq_true ‹_› | (have e_ := (Kd.V_reads' HO_191002.out).1; omega))
     obtain ⟨ua191_3, uc191_3, ua191_4, uc191_4, rfl, ul191_3, ge191_3, ul191_4, ge191_4⟩ := k37_openF hMe191
     have hv191_3 := hcc191 3 _ rfl
     rw [add_field _ _ 3 (by omega)] at hv191_3
     replace hv191_3 := Option.some.inj (hv191_3.symm.trans hx191_3)
     injection hv191_3 with hva_ hvn_ hvc_
     rw [hva_] at ge191_3
     rw [hvc_] at ul191_3
     have HL191_3 := am_ (show Kd.V k129 129 _ w.heap.size _ _ ((rd_T37 l0_2 x6_1).f1.f2) from Kd.V_mk ul191_3 ge191_3)
     clear hva_ hvn_ hvc_ ge191_3 ul191_3
     have hv191_4 := hcc191 4 _ rfl
     rw [add_field _ _ 4 (by omega)] at hv191_4
     replace hv191_4 := Option.some.inj (hv191_4.symm.trans hx191_4)
     injection hv191_4 with hva_ hvn_ hvc_
     rw [hva_] at ge191_4
     rw [hvc_] at ul191_4
     have HL191_4 := am_ (show Kd.V Kd.string 9 _ w.heap.size _ _ ((rd_T37 l0_2 x6_1).f1.f3) from Kd.V_mk ul191_4 ge191_4)
     clear hva_ hvn_ hvc_ ge191_4 ul191_4 hcc191 hce191
     have HR191_3 := am_ hi191_3
     have HC191_3 := am_ hl191_3
     clear hi191_3 hl191_3
     have HR191_4 := am_ hi191_4
     have HC191_4 := am_ hl191_4
     clear hi191_4 hl191_4
     replace p191 := eq_true p191
     replace q191 := eq_true q191
     have p192 : 0 ≤ (x6_1 : Int) := of_decide_eq_true ‹_›
     have q192 : x6_1 < (l0_2.length : Int) := of_decide_eq_true ‹_›
     obtain ⟨ad192, A192_3, c192_3, A192_4, c192_4, e192, hx192_0, hx192_1, hx192_2, hx192_3, hx192_4, hx192_5, hx192_6, hl192_3, hi192_3, hl192_4, hi192_4⟩ := at_T37 (Kd.V_reads' HO_191002.out).2.2 x6_1 p192 q192
     obtain rfl : ad191 = ad192 := (by injection e192)
     obtain ⟨ce192, hce192, hMe192, hcc192⟩ := Kd.V_get HO_191002.out z37 x6_1 p192 (by first | exact q192 | exact of_decide_eq_true ‹_› | (have e_ := (Kd.V_reads' HO_191002.out).1; omega))
     obtain ⟨ua192_3, uc192_3, ua192_4, uc192_4, rfl, ul192_3, ge192_3, ul192_4, ge192_4⟩ := k37_openF hMe192
     have hv192_3 := hcc192 3 _ rfl
     rw [add_field _ _ 3 (by omega)] at hv192_3
     replace hv192_3 := Option.some.inj (hv192_3.symm.trans hx192_3)
     injection hv192_3 with hva_ hvn_ hvc_
     rw [hva_] at ge192_3
     rw [hvc_] at ul192_3
     have HL192_3 := am_ (show Kd.V k129 129 _ w.heap.size _ _ ((rd_T37 l0_2 x6_1).f1.f2) from Kd.V_mk ul192_3 ge192_3)
     clear hva_ hvn_ hvc_ ge192_3 ul192_3
     have hv192_4 := hcc192 4 _ rfl
     rw [add_field _ _ 4 (by omega)] at hv192_4
     replace hv192_4 := Option.some.inj (hv192_4.symm.trans hx192_4)
     injection hv192_4 with hva_ hvn_ hvc_
     rw [hva_] at ge192_4
     rw [hvc_] at ul192_4
     have HL192_4 := am_ (show Kd.V Kd.string 9 _ w.heap.size _ _ ((rd_T37 l0_2 x6_1).f1.f3) from Kd.V_mk ul192_4 ge192_4)
     clear hva_ hvn_ hvc_ ge192_4 ul192_4 hcc192 hce192
     have HR192_3 := am_ hi192_3
     have HC192_3 := am_ hl192_3
     clear hi192_3 hl192_3
     have HR192_4 := am_ hi192_4
     have HC192_4 := am_ hl192_4
     clear hi192_4 hl192_4
     replace p192 := eq_true p192
     replace q192 := eq_true q192
     have ea_ := Option.some.inj (hx191_3.symm.trans hx192_3)
     injection ea_ with ea_ en_ ec_
     subst ea_
     subst ec_
     clear en_
     have ea_ := Option.some.inj (hx191_4.symm.trans hx192_4)
     injection ea_ with ea_ en_ ec_
     subst ea_
     subst ec_
     clear en_
     go_wp2_with (first | ((with_reducible refine gate_builtin (b := .append) (xs := #[.tmp 23, .tmp 29]) rfl ?_); at_builtin; refine Kd.N_append k37 (w0 := w) w.heap.size rfl (.tmp 23) (.tmp 29) 22 37 (.agg #[(.string ⟨#[]⟩), (.int .i64 0), (.int .i64 0), (.slice none 0 0), (.slice none 0 0), (.int .i64 0), (.int .i64 0)]) 96 rfl Try.underlying22 info37 rfl (by decide) (by omega) u5 x5_1 (⟨(rd_T37 l0_2 x6_1).f0, (⟨(rd_T37 l0_2 x6_1).f1.f0, (rd_T37 l0_2 x6_1).f1.f1, (rd_T37 l0_2 x6_1).f1.f2, (rd_T37 l0_2 x6_1).f1.f3, (⟨(rd_T37 l0_2 x6_1).f1.f4.f0, (rd_T37 l0_2 x6_1).f1.f4.f1⟩ : S33)⟩ : S35)⟩ : S37) [.string ((rd_T37 l0_2 x6_1).f0), .int .i64 ((rd_T37 l0_2 x6_1).f1.f0), .int .i64 ((rd_T37 l0_2 x6_1).f1.f1), .slice A191_3 ((rd_T37 l0_2 x6_1).f1.f2).length c191_3, .slice A191_4 ((rd_T37 l0_2 x6_1).f1.f3).length c191_4, .int .i64 ((rd_T37 l0_2 x6_1).f1.f4.f0), .int .i64 ((rd_T37 l0_2 x6_1).f1.f4.f1)] (fun k_ => (P0_2_ k_ ∨ w.heap.size ≤ k_) ∧ k_ ≠ gb190) (fun k_ => ((fun k_ => (P0_2_ k_ ∨ w.heap.size ≤ k_) ∧ k_ ≠ gb190)) k_ ∧ some k_ ≠ (u5 : Value).ownBlock) rfl rfl ?aP (fun _ hk => hk) ?aF ?aO ?aB ?aS ?aL ?_; (case aP => exact (k37_mkF _ _ (⟨(rd_T37 l0_2 x6_1).f0, (⟨(rd_T37 l0_2 x6_1).f1.f0, (rd_T37 l0_2 x6_1).f1.f1, (rd_T37 l0_2 x6_1).f1.f2, (rd_T37 l0_2 x6_1).f1.f3, (⟨(rd_T37 l0_2 x6_1).f1.f4.f0, (rd_T37 l0_2 x6_1).f1.f4.f1⟩ : S33)⟩ : S35)⟩ : S37) (Kd.V_reads' (Kd.V_mono (ok' := (fun k_ => ((fun k_ => (P0_2_ k_ ∨ w.heap.size ≤ k_) ∧ k_ ≠ gb190)) k_ ∧ some k_ ≠ (u5 : Value).ownBlock)) (HL192_3.out) (fun k_ hk => ⟨⟨hk.1, hk.2.2⟩, hk.2.1⟩))).2.1 (Kd.V_F (Kd.V_mono (ok' := (fun k_ => ((fun k_ => (P0_2_ k_ ∨ w.heap.size ≤ k_) ∧ k_ ≠ gb190)) k_ ∧ some k_ ≠ (u5 : Value).ownBlock)) (HL192_3.out) (fun k_ hk => ⟨⟨hk.1, hk.2.2⟩, hk.2.1⟩))) (Kd.V_reads' (Kd.V_mono (ok' := (fun k_ => ((fun k_ => (P0_2_ k_ ∨ w.heap.size ≤ k_) ∧ k_ ≠ gb190)) k_ ∧ some k_ ≠ (u5 : Value).ownBlock)) (HL192_4.out) (fun k_ hk => ⟨⟨hk.1, hk.2.2⟩, hk.2.1⟩))).2.1 (Kd.V_F (Kd.V_mono (ok' := (fun k_ => ((fun k_ => (P0_2_ k_ ∨ w.heap.size ≤ k_) ∧ k_ ≠ gb190)) k_ ∧ some k_ ≠ (u5 : Value).ownBlock)) (HL192_4.out) (fun k_ hk => ⟨⟨hk.1, hk.2.2⟩, hk.2.1⟩))))); (case aB => exact (bh HB)); (case aF => exact (fun k_ hk => ⟨(.inr (Nat.le_trans (below_size (bh HB)) hk)), gFr BK190 k_ hk⟩)); (case aO => exact (hN HO_5)); (case aS => exact (below_size (bh HB))); (case aL => have := LMc7.out; omega); intro v194 w9 ho hb hg hat; rw [← Ny193.out] at ho; replace HO_191002 := am_ (Kd.V_afterv (ok := (fun k_ => (P0_2_ k_ ∨ w.heap.size ≤ k_) ∧ k_ ≠ gb190)) (gV HO_191002) hg hat); replace BK190 := tBg BK190 hg (Kd.N_ne HO_5.out BK190.out (by decide)); replace HL191_3 := am_ (Kd.V_afterv (ok := (fun k_ => (P0_2_ k_ ∨ w.heap.size ≤ k_) ∧ k_ ≠ gb190)) (gV HL191_3) hg hat); replace HL191_4 := am_ (Kd.V_afterv (ok := (fun k_ => (P0_2_ k_ ∨ w.heap.size ≤ k_) ∧ k_ ≠ gb190)) (gV HL191_4) hg hat); replace HL192_3 := am_ (Kd.V_afterv (ok := (fun k_ => (P0_2_ k_ ∨ w.heap.size ≤ k_) ∧ k_ ≠ gb190)) (gV HL192_3) hg hat); replace HL192_4 := am_ (Kd.V_afterv (ok := (fun k_ => (P0_2_ k_ ∨ w.heap.size ≤ k_) ∧ k_ ≠ gb190)) (gV HL192_4) hg hat); replace HB := am_ hb; have HO195 := am_ (ho); clear HO_5 ho hb hg hat))
     go_roundg k1
     case measure => have := HK1.out; omega
     case rel => exact ⟨(y193), (wrap64 (x6_1 + 1)), (by first | rfl | (simp; done) | (simp [*]; done)), H', kS HK1, ⟨hN HO195⟩, ⟨gV HO_191002⟩, ⟨gB BK190⟩, ⟨bh HB⟩⟩
    rw [if_neg c6] at H
    have c6b0 : (((rd_T37 l0_2 x6_1).f1.f1) == a1) = false := beq_eq_false_iff_ne.mpr c6
    have c6b1 : (((rd_T37 l0_2 x6_1).f1.f1) != a1) = true := bne_iff_ne.mpr c6
    have H' := am_ H
    clear H
    obtain ⟨hcz10_0, hcz10_1, hcz10_2, hfz10_0, hfz10_1, hfz10_2⟩ := bx3 BK190
    have p191 : 0 ≤ (x6_1 : Int) := of_decide_eq_true ‹_›
    have q191 : x6_1 < (l0_2.length : Int) := of_decide_eq_true ‹_›
    obtain ⟨ad191, A191_3, c191_3, A191_4, c191_4, e191, hx191_0, hx191_1, hx191_2, hx191_3, hx191_4, hx191_5, hx191_6, hl191_3, hi191_3, hl191_4, hi191_4⟩ := at_T37 (Kd.V_reads' HO_191002.out).2.2 x6_1 p191 q191
    cases e191
    obtain ⟨ce191, hce191, hMe191, hcc191⟩ := Kd.V_get HO_191002.out z37 x6_1 p191 (by first | exact q191 | exact of_decide_eq_true ‹_› | (have e_ := (Kd.V_reads' HO_191002.out).1; omega))
    obtain ⟨ua191_3, uc191_3, ua191_4, uc191_4, rfl, ul191_3, ge191_3, ul191_4, ge191_4⟩ := k37_openF hMe191
    have hv191_3 := hcc191 3 _ rfl
    rw [add_field _ _ 3 (by omega)] at hv191_3
    replace hv191_3 := Option.some.inj (hv191_3.symm.trans hx191_3)
    injection hv191_3 with hva_ hvn_ hvc_
    rw [hva_] at ge191_3
    rw [hvc_] at ul191_3
    have HL191_3 := am_ (show Kd.V k129 129 _ w.heap.size _ _ ((rd_T37 l0_2 x6_1).f1.f2) from Kd.V_mk ul191_3 ge191_3)
    clear hva_ hvn_ hvc_ ge191_3 ul191_3
    have hv191_4 := hcc191 4 _ rfl
    rw [add_field _ _ 4 (by omega)] at hv191_4
    replace hv191_4 := Option.some.inj (hv191_4.symm.trans hx191_4)
    injection hv191_4 with hva_ hvn_ hvc_
    rw [hva_] at ge191_4
    rw [hvc_] at ul191_4
    have HL191_4 := am_ (show Kd.V Kd.string 9 _ w.heap.size _ _ ((rd_T37 l0_2 x6_1).f1.f3) from Kd.V_mk ul191_4 ge191_4)
    clear hva_ hvn_ hvc_ ge191_4 ul191_4 hcc191 hce191
    have HR191_3 := am_ hi191_3
    have HC191_3 := am_ hl191_3
    clear hi191_3 hl191_3
    have HR191_4 := am_ hi191_4
    have HC191_4 := am_ hl191_4
    clear hi191_4 hl191_4
    replace p191 := eq_true p191
    replace q191 := eq_true q191
    go_wp2
    go_roundg k1
    case measure => have := HK1.out; omega
    case rel => exact ⟨(x5_1), (wrap64 (x6_1 + 1)), (by first | rfl | (simp; done) | (simp [*]; done)), H', kS HK1, ⟨hN HO_5⟩, ⟨hV HO_191002⟩, ⟨gB BK190⟩, ⟨bh HB⟩⟩
   rw [if_neg c4] at H
   have c4b0 : decide (x6_1 < (l0_2.length : Int)) = false := decide_eq_false c4
   clear c4
   obtain rfl := Option.some.inj H
   obtain ⟨hcz11_0, hcz11_1, hcz11_2, hfz11_0, hfz11_1, hfz11_2⟩ := bx3 BK190
   go_wp2
   go_ret
   exact ⟨_, by first | rfl | (simp [errW_none, errW_some] <;> rfl) | (simp [*, errW_none, errW_some] <;> rfl), gN HO_5, bh HB⟩

mutual
def selvedgeref11_Missing.l0 : Nat → List (S37) → List ByteArray → Int → Int → Int → List (S129) → List ByteArray → Int → Int → Option (List ByteArray)
 | 0, _, _, _, _, _, _, _, _, _ => none
 | k + 1, x5, x6, x7, x198000, x198001, x198002, x198003, x198004, x198005 => if x7 < (x198003.length : Int) then (selvedgeref11_Missing.l1 k x5 x6 x7 false 0 x198000 x198001 x198002 x198003 x198004 x198005) else (some x6)
def selvedgeref11_Missing.l1 : Nat → List (S37) → List ByteArray → Int → Bool → Int → Int → Int → List (S129) → List ByteArray → Int → Int → Option (List ByteArray)
 | 0, _, _, _, _, _, _, _, _, _, _, _ => none
 | k + 1, x5, x6, x7, x8, x9, x198000, x198001, x198002, x198003, x198004, x198005 => if x9 < (x5.length : Int) then (if x8 = true then (selvedgeref11_Missing.l1 k x5 x6 x7 true (wrap64 (x9 + 1)) x198000 x198001 x198002 x198003 x198004 x198005) else (if 0 ≤ x9 then (if 0 ≤ x7 then (if x7 < (x198003.length : Int) then (selvedgeref11_Missing.l1 k x5 x6 x7 (((rd_T37 x5 x9).f0).toList == (rdOf ByteArray.empty x198003 x7).toList) (wrap64 (x9 + 1)) x198000 x198001 x198002 x198003 x198004 x198005) else (none)) else (none)) else (none))) else (if x8 = true then (selvedgeref11_Missing.l0 k x5 x6 (wrap64 (x7 + 1)) x198000 x198001 x198002 x198003 x198004 x198005) else (if 0 ≤ x7 then (if x7 < (x198003.length : Int) then (if x6.length < 8796093022208 then (selvedgeref11_Missing.l0 k x5 (x6 ++ [rdOf ByteArray.empty x198003 x7]) (wrap64 (x7 + 1)) x198000 x198001 x198002 x198003 x198004 x198005) else (none)) else (none)) else (none)))
end
def selvedgeref11_Missing.f (k : Nat) (a0_0 : Int) (a0_1 : Int) (l0_2 : List (S37)) (a1_0 : Int) (a1_1 : Int) (l1_2 : List (S129)) (l1_3 : List ByteArray) (a1_4 : Int) (a1_5 : Int) : Option (List ByteArray) := if (wrap64 (a1_1 - 1)) ≤ a0_1 then (some ([] : List ByteArray)) else ((selvedgeref11_Round.f k a0_0 a0_1 l0_2 (wrap64 (a1_1 - 1))).bind fun t198 => (selvedgeref11_Missing.l0 k t198 ([] : List ByteArray) 0 a1_0 a1_1 l1_2 l1_3 a1_4 a1_5))
set_option maxHeartbeats 8000000 in
set_option maxRecDepth 100000 in
theorem selvedgeref11_Missing.calls (k : Nat) (a0_0 : Int) (a0_1 : Int) (A0_2 : Option Addr) (c0_2 : Nat) (l0_2 : List (S37)) (a1_0 : Int) (a1_1 : Int) (A1_2 : Option Addr) (c1_2 : Nat) (l1_2 : List (S129)) (A1_3 : Option Addr) (c1_3 : Nat) (l1_3 : List ByteArray) (a1_4 : Int) (a1_5 : Int) (r : List ByteArray) (w : World) (hr0_2 : Kd.C k37 w A0_2 l0_2.length l0_2) (hc0_2 : l0_2.length ≤ c0_2) (hr1_2 : Kd.C k129 w A1_2 l1_2.length l1_2) (hc1_2 : l1_2.length ≤ c1_2) (hr1_3 : Kd.C Kd.string w A1_3 l1_3.length l1_3) (hc1_3 : l1_3.length ≤ c1_3) (h : selvedgeref11_Missing.f k a0_0 a0_1 l0_2 a1_0 a1_1 l1_2 l1_3 a1_4 a1_5 = some r) :
  Calls Try.prog 60 #[.agg #[.int .i64 a0_0, .int .i64 a0_1, .slice A0_2 l0_2.length c0_2], .agg #[.int .i64 a1_0, .int .i64 a1_1, .slice A1_2 l1_2.length c1_2, .slice A1_3 l1_3.length c1_3, .int .i64 a1_4, .int .i64 a1_5]] w fun e w' => ∃ v0_ : Value, e = .returned (v0_) ∧ Kd.R Kd.string 9 w' w.heap.size (fun _ => True) v0_ r ∧ Below w.heap.size w w' := by
 have hu24 := Try.underlying24
 have hu35 := Try.underlying35
 have HR0_2 := am_ hr0_2
 have HC0_2 := am_ hc0_2
 clear hr0_2 hc0_2
 have HR1_2 := am_ hr1_2
 have HC1_2 := am_ hc1_2
 clear hr1_2 hc1_2
 have HR1_3 := am_ hr1_3
 have HC1_3 := am_ hc1_3
 clear hr1_3 hc1_3
 have HB := am_ (Below.refl w.heap.size w)
 have H : (if (wrap64 (a1_1 - 1)) ≤ a0_1 then (some ([] : List ByteArray)) else ((selvedgeref11_Round.f k a0_0 a0_1 l0_2 (wrap64 (a1_1 - 1))).bind fun t198 => (selvedgeref11_Missing.l0 k t198 ([] : List ByteArray) 0 a1_0 a1_1 l1_2 l1_3 a1_4 a1_5))) = some r := h
 clear h
 by_cases c3 : (wrap64 (a1_1 - 1)) ≤ a0_1
 ·
  rw [if_pos c3] at H
  have c3b0 : decide ((wrap64 (a1_1 - 1)) ≤ a0_1) = true := decide_eq_true c3
  clear c3
  obtain rfl := Option.some.inj H
  go_enter Try.func60, Try.ntmps60
  go_wp2_with (first | ((with_reducible refine gate_dst (N := 2) rfl ?_); refine box_event ?hg (N := 2) ?hd (cs := #[.int .i64 a0_0, .int .i64 a0_1, .slice A0_2 l0_2.length c0_2]) (t := 24) ?hr ?_; (case hd => rfl); (case hg => rfl); (case hr => first | (go_simp; done) | (go_simp; rfl)); intro gb196 hg w4 hbox hb; have BK196 := am_ hbox; have GW196 := tG HB hg; have GE196 := tG HB hg; replace HB := tHb HB hb; clear hb hbox hg) | ((with_reducible refine gate_dst (N := 3) rfl ?_); refine box_event ?hg (N := 3) ?hd (cs := #[.int .i64 a1_0, .int .i64 a1_1, .slice A1_2 l1_2.length c1_2, .slice A1_3 l1_3.length c1_3, .int .i64 a1_4, .int .i64 a1_5]) (t := 35) ?hr ?_; (case hd => rfl); (case hg => rfl); (case hr => first | (go_simp; done) | (go_simp; rfl)); intro gb197 hg w5 hbox hb; have BK197 := am_ hbox; have GW197 := tG HB hg; have GE197 := tG HB hg; replace HB := tHb HB hb; have NB196_197 := tL BK196 hg; have NB197_196 := tR BK196 hg; replace BK196 := tBb BK196 hb; clear hb hbox hg; have hnb6 := NB197_196.out; have hnc6 := NB196_197.out; obtain ⟨hcz7_0, hcz7_1, hcz7_2, hcz7_3, hcz7_4, hcz7_5, hfz7_0, hfz7_1, hfz7_2, hfz7_3, hfz7_4, hfz7_5⟩ := bx6 BK197; obtain ⟨hcz8_0, hcz8_1, hcz8_2, hfz8_0, hfz8_1, hfz8_2⟩ := bx3 BK196))
  (try simp only [Act.put, List.setIfInBounds_toArray, List.set_cons_zero, List.set_cons_succ])
  repeat (go_quiet (first | ((with_reducible refine gate_dst (N := 2) rfl ?_); refine box_event ?hg (N := 2) ?hd (cs := #[.int .i64 a0_0, .int .i64 a0_1, .slice A0_2 l0_2.length c0_2]) (t := 24) ?hr ?_; (case hd => rfl); (case hg => rfl); (case hr => first | (go_simp; done) | (go_simp; rfl)); intro gb196 hg w4 hbox hb; have BK196 := am_ hbox; have GW196 := tG HB hg; have GE196 := tG HB hg; replace HB := tHb HB hb; clear hb hbox hg) | ((with_reducible refine gate_dst (N := 3) rfl ?_); refine box_event ?hg (N := 3) ?hd (cs := #[.int .i64 a1_0, .int .i64 a1_1, .slice A1_2 l1_2.length c1_2, .slice A1_3 l1_3.length c1_3, .int .i64 a1_4, .int .i64 a1_5]) (t := 35) ?hr ?_; (case hd => rfl); (case hg => rfl); (case hr => first | (go_simp; done) | (go_simp; rfl)); intro gb197 hg w5 hbox hb; have BK197 := am_ hbox; have GW197 := tG HB hg; have GE197 := tG HB hg; replace HB := tHb HB hb; have NB196_197 := tL BK196 hg; have NB197_196 := tR BK196 hg; replace BK196 := tBb BK196 hb; clear hb hbox hg; have hnb6 := NB197_196.out; have hnc6 := NB196_197.out; obtain ⟨hcz7_0, hcz7_1, hcz7_2, hcz7_3, hcz7_4, hcz7_5, hfz7_0, hfz7_1, hfz7_2, hfz7_3, hfz7_4, hfz7_5⟩ := bx6 BK197; obtain ⟨hcz8_0, hcz8_1, hcz8_2, hfz8_0, hfz8_1, hfz8_2⟩ := bx3 BK196)); try go_wp2_with (first | ((with_reducible refine gate_dst (N := 2) rfl ?_); refine box_event ?hg (N := 2) ?hd (cs := #[.int .i64 a0_0, .int .i64 a0_1, .slice A0_2 l0_2.length c0_2]) (t := 24) ?hr ?_; (case hd => rfl); (case hg => rfl); (case hr => first | (go_simp; done) | (go_simp; rfl)); intro gb196 hg w4 hbox hb; have BK196 := am_ hbox; have GW196 := tG HB hg; have GE196 := tG HB hg; replace HB := tHb HB hb; clear hb hbox hg) | ((with_reducible refine gate_dst (N := 3) rfl ?_); refine box_event ?hg (N := 3) ?hd (cs := #[.int .i64 a1_0, .int .i64 a1_1, .slice A1_2 l1_2.length c1_2, .slice A1_3 l1_3.length c1_3, .int .i64 a1_4, .int .i64 a1_5]) (t := 35) ?hr ?_; (case hd => rfl); (case hg => rfl); (case hr => first | (go_simp; done) | (go_simp; rfl)); intro gb197 hg w5 hbox hb; have BK197 := am_ hbox; have GW197 := tG HB hg; have GE197 := tG HB hg; replace HB := tHb HB hb; have NB196_197 := tL BK196 hg; have NB197_196 := tR BK196 hg; replace BK196 := tBb BK196 hb; clear hb hbox hg; have hnb6 := NB197_196.out; have hnc6 := NB196_197.out; obtain ⟨hcz7_0, hcz7_1, hcz7_2, hcz7_3, hcz7_4, hcz7_5, hfz7_0, hfz7_1, hfz7_2, hfz7_3, hfz7_4, hfz7_5⟩ := bx6 BK197; obtain ⟨hcz8_0, hcz8_1, hcz8_2, hfz8_0, hfz8_1, hfz8_2⟩ := bx3 BK196)))
  go_ret
  exact ⟨_, by first | rfl | (simp [errW_none, errW_some] <;> rfl) | (simp [*, errW_none, errW_some] <;> rfl), by first | exact Kd.R_nil _ _ _ _ _ | exact Kd.N_nil _ _ _ _ _ | exact Kd.V_nil _ _ _ _ _ | exact Kd.Q_nil _ _ _ _ _ | exact Kd.S_nil _ _ _ _ _, bh HB⟩
 rw [if_neg c3] at H
 have c3b0 : decide ((wrap64 (a1_1 - 1)) ≤ a0_1) = false := decide_eq_false c3
 clear c3
 replace H := Option.bind_eq_some_iff.mp H
 obtain ⟨t198, A90, H⟩ := H
 replace H : (selvedgeref11_Missing.l0 k t198 ([] : List ByteArray) 0 a1_0 a1_1 l1_2 l1_3 a1_4 a1_5) = some r := H
 have A9 := am_ A90
 clear A90
 have H' := am_ H
 clear H
 go_enter Try.func60, Try.ntmps60
 go_wp2_with (first | ((with_reducible refine gate_dst (N := 2) rfl ?_); refine box_event ?hg (N := 2) ?hd (cs := #[.int .i64 a0_0, .int .i64 a0_1, .slice A0_2 l0_2.length c0_2]) (t := 24) ?hr ?_; (case hd => rfl); (case hg => rfl); (case hr => first | (go_simp; done) | (go_simp; rfl)); intro gb196 hg w10 hbox hb; have BK196 := am_ hbox; have GW196 := tG HB hg; have GE196 := tG HB hg; replace HB := tHb HB hb; clear hb hbox hg) | ((with_reducible refine gate_dst (N := 3) rfl ?_); refine box_event ?hg (N := 3) ?hd (cs := #[.int .i64 a1_0, .int .i64 a1_1, .slice A1_2 l1_2.length c1_2, .slice A1_3 l1_3.length c1_3, .int .i64 a1_4, .int .i64 a1_5]) (t := 35) ?hr ?_; (case hd => rfl); (case hg => rfl); (case hr => first | (go_simp; done) | (go_simp; rfl)); intro gb197 hg w11 hbox hb; have BK197 := am_ hbox; have GW197 := tG HB hg; have GE197 := tG HB hg; replace HB := tHb HB hb; have NB196_197 := tL BK196 hg; have NB197_196 := tR BK196 hg; replace BK196 := tBb BK196 hb; clear hb hbox hg; have hnb12 := NB197_196.out; have hnc12 := NB196_197.out; obtain ⟨hcz13_0, hcz13_1, hcz13_2, hcz13_3, hcz13_4, hcz13_5, hfz13_0, hfz13_1, hfz13_2, hfz13_3, hfz13_4, hfz13_5⟩ := bx6 BK197; obtain ⟨hcz14_0, hcz14_1, hcz14_2, hfz14_0, hfz14_1, hfz14_2⟩ := bx3 BK196) | (go_at_call 62; (with_reducible refine (selvedgeref11_Round.calls k a0_0 a0_1 (fun k_ => k_ < w.heap.size) _ _ l0_2 (wrap64 (a1_1 - 1)) t198 _ ?side1 A9.out).mono ?_); (case side1 => exact Kd.V_mk HC0_2.out (Kd.F_below (Kd.C_F k37_heap HR0_2.out) (bh HB))); rintro e w15 ⟨v199, rfl, ho0, hb⟩; have HO200 := am_ (Kd.N_lower (Kd.N_mono (ok' := fun k_ => k_ ≠ gb196 ∧ k_ ≠ gb197) ho0 (fun k_ hk_ => ⟨Or.elim hk_ (fun hs_ => fun e_ => Nat.not_le.2 hs_ (by rw [e_]; exact GW196.out)) (fun hn_ => (gFr BK196 k_ hn_)), Or.elim hk_ (fun hs_ => fun e_ => Nat.not_le.2 hs_ (by rw [e_]; exact GW197.out)) (fun hn_ => (gFr BK197 k_ hn_))⟩)) (below_size (bh HB))); replace BK196 := tBb BK196 hb; replace BK197 := tBb BK197 hb; replace HB := tHb HB hb; (try clear hb); (try clear hb2); (try clear hk); (try clear hi); (try clear ho0)))
 (try simp only [Act.put, List.setIfInBounds_toArray, List.set_cons_zero, List.set_cons_succ])
 repeat (go_quiet (first | ((with_reducible refine gate_dst (N := 2) rfl ?_); refine box_event ?hg (N := 2) ?hd (cs := #[.int .i64 a0_0, .int .i64 a0_1, .slice A0_2 l0_2.length c0_2]) (t := 24) ?hr ?_; (case hd => rfl); (case hg => rfl); (case hr => first | (go_simp; done) | (go_simp; rfl)); intro gb196 hg w10 hbox hb; have BK196 := am_ hbox; have GW196 := tG HB hg; have GE196 := tG HB hg; replace HB := tHb HB hb; clear hb hbox hg) | ((with_reducible refine gate_dst (N := 3) rfl ?_); refine box_event ?hg (N := 3) ?hd (cs := #[.int .i64 a1_0, .int .i64 a1_1, .slice A1_2 l1_2.length c1_2, .slice A1_3 l1_3.length c1_3, .int .i64 a1_4, .int .i64 a1_5]) (t := 35) ?hr ?_; (case hd => rfl); (case hg => rfl); (case hr => first | (go_simp; done) | (go_simp; rfl)); intro gb197 hg w11 hbox hb; have BK197 := am_ hbox; have GW197 := tG HB hg; have GE197 := tG HB hg; replace HB := tHb HB hb; have NB196_197 := tL BK196 hg; have NB197_196 := tR BK196 hg; replace BK196 := tBb BK196 hb; clear hb hbox hg; have hnb12 := NB197_196.out; have hnc12 := NB196_197.out; obtain ⟨hcz13_0, hcz13_1, hcz13_2, hcz13_3, hcz13_4, hcz13_5, hfz13_0, hfz13_1, hfz13_2, hfz13_3, hfz13_4, hfz13_5⟩ := bx6 BK197; obtain ⟨hcz14_0, hcz14_1, hcz14_2, hfz14_0, hfz14_1, hfz14_2⟩ := bx3 BK196) | (go_at_call 62; (with_reducible refine (selvedgeref11_Round.calls k a0_0 a0_1 (fun k_ => k_ < w.heap.size) _ _ l0_2 (wrap64 (a1_1 - 1)) t198 _ ?side1 A9.out).mono ?_); (case side1 => exact Kd.V_mk HC0_2.out (Kd.F_below (Kd.C_F k37_heap HR0_2.out) (bh HB))); rintro e w15 ⟨v199, rfl, ho0, hb⟩; have HO200 := am_ (Kd.N_lower (Kd.N_mono (ok' := fun k_ => k_ ≠ gb196 ∧ k_ ≠ gb197) ho0 (fun k_ hk_ => ⟨Or.elim hk_ (fun hs_ => fun e_ => Nat.not_le.2 hs_ (by rw [e_]; exact GW196.out)) (fun hn_ => (gFr BK196 k_ hn_)), Or.elim hk_ (fun hs_ => fun e_ => Nat.not_le.2 hs_ (by rw [e_]; exact GW197.out)) (fun hn_ => (gFr BK197 k_ hn_))⟩)) (below_size (bh HB))); replace BK196 := tBb BK196 hb; replace BK197 := tBb BK197 hb; replace HB := tHb HB hb; (try clear hb); (try clear hb2); (try clear hk); (try clear hi); (try clear ho0))); try go_wp2_with (first | ((with_reducible refine gate_dst (N := 2) rfl ?_); refine box_event ?hg (N := 2) ?hd (cs := #[.int .i64 a0_0, .int .i64 a0_1, .slice A0_2 l0_2.length c0_2]) (t := 24) ?hr ?_; (case hd => rfl); (case hg => rfl); (case hr => first | (go_simp; done) | (go_simp; rfl)); intro gb196 hg w10 hbox hb; have BK196 := am_ hbox; have GW196 := tG HB hg; have GE196 := tG HB hg; replace HB := tHb HB hb; clear hb hbox hg) | ((with_reducible refine gate_dst (N := 3) rfl ?_); refine box_event ?hg (N := 3) ?hd (cs := #[.int .i64 a1_0, .int .i64 a1_1, .slice A1_2 l1_2.length c1_2, .slice A1_3 l1_3.length c1_3, .int .i64 a1_4, .int .i64 a1_5]) (t := 35) ?hr ?_; (case hd => rfl); (case hg => rfl); (case hr => first | (go_simp; done) | (go_simp; rfl)); intro gb197 hg w11 hbox hb; have BK197 := am_ hbox; have GW197 := tG HB hg; have GE197 := tG HB hg; replace HB := tHb HB hb; have NB196_197 := tL BK196 hg; have NB197_196 := tR BK196 hg; replace BK196 := tBb BK196 hb; clear hb hbox hg; have hnb12 := NB197_196.out; have hnc12 := NB196_197.out; obtain ⟨hcz13_0, hcz13_1, hcz13_2, hcz13_3, hcz13_4, hcz13_5, hfz13_0, hfz13_1, hfz13_2, hfz13_3, hfz13_4, hfz13_5⟩ := bx6 BK197; obtain ⟨hcz14_0, hcz14_1, hcz14_2, hfz14_0, hfz14_1, hfz14_2⟩ := bx3 BK196) | (go_at_call 62; (with_reducible refine (selvedgeref11_Round.calls k a0_0 a0_1 (fun k_ => k_ < w.heap.size) _ _ l0_2 (wrap64 (a1_1 - 1)) t198 _ ?side1 A9.out).mono ?_); (case side1 => exact Kd.V_mk HC0_2.out (Kd.F_below (Kd.C_F k37_heap HR0_2.out) (bh HB))); rintro e w15 ⟨v199, rfl, ho0, hb⟩; have HO200 := am_ (Kd.N_lower (Kd.N_mono (ok' := fun k_ => k_ ≠ gb196 ∧ k_ ≠ gb197) ho0 (fun k_ hk_ => ⟨Or.elim hk_ (fun hs_ => fun e_ => Nat.not_le.2 hs_ (by rw [e_]; exact GW196.out)) (fun hn_ => (gFr BK196 k_ hn_)), Or.elim hk_ (fun hs_ => fun e_ => Nat.not_le.2 hs_ (by rw [e_]; exact GW197.out)) (fun hn_ => (gFr BK197 k_ hn_))⟩)) (below_size (bh HB))); replace BK196 := tBb BK196 hb; replace BK197 := tBb BK197 hb; replace HB := tHb HB hb; (try clear hb); (try clear hb2); (try clear hk); (try clear hi); (try clear ho0))))
 go_loopg [6, 7] k (fun kq v6 v7 w' => ∃ (x6_1 : List ByteArray) (x7_1 : Int), v7 = .int .i64 x7_1 ∧ Asc (selvedgeref11_Missing.l0 kq t198 x6_1 x7_1 a1_0 a1_1 l1_2 l1_3 a1_4 a1_5 = some r) ∧ Asc (kq ≤ k) ∧ Asc (Kd.N k37 37 w' w.heap.size (fun k_ => some k_ ≠ (v6 : Value).ownBlock ∧ k_ ≠ gb196 ∧ k_ ≠ gb197) v199 t198) ∧ Asc (Kd.R Kd.string 9 w' w.heap.size (fun _ => True) v6 x6_1) ∧ Asc (w'.heap[gb196]? = some (.cells #[.int .i64 a0_0, .int .i64 a0_1, (.slice A0_2 l0_2.length c0_2)] 24 (0, 0))) ∧ Asc (w'.heap[gb197]? = some (.cells #[.int .i64 a1_0, .int .i64 a1_1, (.slice A1_2 l1_2.length c1_2), (.slice A1_3 l1_3.length c1_3), .int .i64 a1_4, .int .i64 a1_5] 35 (0, 0))) ∧ Asc (Below w.heap.size w w'))
 case atStart => exact ⟨(([] : List ByteArray)), (0), (by first | rfl | (simp; done) | (simp [*]; done)), H', ⟨Nat.le_refl _⟩, ⟨gN HO200⟩, ⟨by first | exact Kd.R_nil _ _ _ _ _ | exact Kd.N_nil _ _ _ _ _ | exact Kd.V_nil _ _ _ _ _ | exact Kd.Q_nil _ _ _ _ _ | exact Kd.S_nil _ _ _ _ _⟩, ⟨gB BK196⟩, ⟨gB BK197⟩, ⟨bh HB⟩⟩
 case round =>
  clear H'
  try clear c3b0 hcz13_0 hcz13_1 hcz13_2 hcz13_3 hcz13_4 hcz13_5 hcz14_0 hcz14_1 hcz14_2 hfz13_0 hfz13_1 hfz13_2 hfz13_3 hfz13_4 hfz13_5 hfz14_0 hfz14_1 hfz14_2
  obtain ⟨x6_1, x7_1, rfl, HA, HK1, HO_5, HO_6, BK196, BK197, HB⟩ := hrel
  cases gk with
  | zero => exact absurd HA.out (by simp [selvedgeref11_Missing.l0])
  | succ k1 =>
   have H := HA.out
   clear HA
   simp only [selvedgeref11_Missing.l0] at H
   by_cases c16 : x7_1 < (l1_3.length : Int)
   ·
    rw [if_pos c16] at H
    have c16b0 : decide (x7_1 < (l1_3.length : Int)) = true := decide_eq_true c16
    clear c16
    have H' := am_ H
    clear H
    have hnb17 := NB197_196.out
    have hnc17 := NB196_197.out
    obtain ⟨hcz18_0, hcz18_1, hcz18_2, hcz18_3, hcz18_4, hcz18_5, hfz18_0, hfz18_1, hfz18_2, hfz18_3, hfz18_4, hfz18_5⟩ := bx6 BK197
    go_wp2
    repeat (go_quiet (fail); try go_wp2)
    go_loopg [8, 9] k1 (fun kq v8 v9 w' => ∃ (x8_2 : Bool) (x9_2 : Int), v8 = .bool x8_2 ∧ v9 = .int .i64 x9_2 ∧ Asc (selvedgeref11_Missing.l1 kq t198 x6_1 x7_1 x8_2 x9_2 a1_0 a1_1 l1_2 l1_3 a1_4 a1_5 = some r) ∧ Asc (kq ≤ k1) ∧ Asc (Kd.N k37 37 w' w.heap.size (fun k_ => some k_ ≠ (u6 : Value).ownBlock ∧ k_ ≠ gb196 ∧ k_ ≠ gb197) v199 t198) ∧ Asc (Kd.R Kd.string 9 w' w.heap.size (fun _ => True) u6 x6_1) ∧ Asc (w'.heap[gb196]? = some (.cells #[.int .i64 a0_0, .int .i64 a0_1, (.slice A0_2 l0_2.length c0_2)] 24 (0, 0))) ∧ Asc (w'.heap[gb197]? = some (.cells #[.int .i64 a1_0, .int .i64 a1_1, (.slice A1_2 l1_2.length c1_2), (.slice A1_3 l1_3.length c1_3), .int .i64 a1_4, .int .i64 a1_5] 35 (0, 0))) ∧ Asc (Below w.heap.size w w'))
    case atStart => exact ⟨(false), (0), (by first | rfl | (simp; done) | (simp [*]; done)), (by first | rfl | (simp; done) | (simp [*]; done)), H', ⟨Nat.le_refl _⟩, ⟨hN HO_5⟩, ⟨hR HO_6⟩, ⟨gB BK196⟩, ⟨gB BK197⟩, ⟨bh HB⟩⟩
    case round =>
     clear H'
     try clear c16b0 hcz18_0 hcz18_1 hcz18_2 hcz18_3 hcz18_4 hcz18_5 hfz18_0 hfz18_1 hfz18_2 hfz18_3 hfz18_4 hfz18_5
     obtain ⟨x8_2, x9_2, rfl, rfl, HA, HK2, HO_5, HO_6, BK196, BK197, HB⟩ := hrel
     cases gk with
     | zero => exact absurd HA.out (by simp [selvedgeref11_Missing.l1])
     | succ k2 =>
      have H := HA.out
      clear HA
      simp only [selvedgeref11_Missing.l1] at H
      by_cases c19 : x9_2 < (t198.length : Int)
      ·
       rw [if_pos c19] at H
       have c19b0 : decide (x9_2 < (t198.length : Int)) = true := decide_eq_true c19
       clear c19
       by_cases c20 : x8_2 = true
       ·
        subst c20
        have H1 : (selvedgeref11_Missing.l1 k2 t198 x6_1 x7_1 true (wrap64 (x9_2 + 1)) a1_0 a1_1 l1_2 l1_3 a1_4 a1_5) = some r := by rw [if_pos rfl] at H; exact H
        clear H
        have H := H1
        clear H1
        have H' := am_ H
        clear H
        obtain ⟨Ao21, co21, eo21⟩ := Kd.N_slice HO_5.out
        subst eo21
        go_wp2
        repeat (go_quiet (fail); try go_wp2)
        go_roundg k2
        case measure => have := HK1.out; have := HK2.out; omega
        case rel => exact ⟨(true), (wrap64 (x9_2 + 1)), (by first | rfl | (simp; done) | (simp [*]; done)), (by first | rfl | (simp; done) | (simp [*]; done)), H', ⟨by have := HK1.out; have := HK2.out; omega⟩, ⟨hN HO_5⟩, ⟨hR HO_6⟩, ⟨gB BK196⟩, ⟨gB BK197⟩, ⟨bh HB⟩⟩
       replace c20 := Bool.eq_false_iff.mpr c20
       subst c20
       have H1 : (if 0 ≤ x9_2 then (if 0 ≤ x7_1 then (if x7_1 < (l1_3.length : Int) then (selvedgeref11_Missing.l1 k2 t198 x6_1 x7_1 (((rd_T37 t198 x9_2).f0).toList == (rdOf ByteArray.empty l1_3 x7_1).toList) (wrap64 (x9_2 + 1)) a1_0 a1_1 l1_2 l1_3 a1_4 a1_5) else (none)) else (none)) else (none)) = some r := by rw [if_neg (show ¬ (false = true) by decide)] at H; exact H
       clear H
       have H := H1
       clear H1
       revert H
       refine gi (fun c22b0 H => ?_)
       revert H
       refine gi (fun c23b0 H => ?_)
       revert H
       refine gi (fun c24b0 H => ?_)
       have H' := am_ H
       clear H
       obtain ⟨Ao25, co25, eo25⟩ := Kd.N_slice HO_5.out
       subst eo25
       have p201 : 0 ≤ (x9_2 : Int) := of_decide_eq_true ‹_›
       have q201 : x9_2 < (t198.length : Int) := of_decide_eq_true ‹_›
       obtain ⟨ad201, A201_3, c201_3, A201_4, c201_4, e201, hx201_0, hx201_1, hx201_2, hx201_3, hx201_4, hx201_5, hx201_6, hl201_3, hi201_3, hl201_4, hi201_4⟩ := at_T37 (Kd.N_reads' HO_5.out).2.2 x9_2 p201 q201
       cases e201
       obtain ⟨ce201, hce201, hMe201, hcc201⟩ := Kd.N_get HO_5.out z37 x9_2 p201 (by first | exact q201 | exact of_decide_eq_true ‹_› | (have e_ := (Kd.N_reads' HO_5.out).1; omega))
       obtain ⟨ua201_3, uc201_3, ua201_4, uc201_4, rfl, ul201_3, ge201_3, ul201_4, ge201_4⟩ := k37_openF hMe201
       have hv201_3 := hcc201 3 _ rfl
       rw [add_field _ _ 3 (by omega)] at hv201_3
       replace hv201_3 := Option.some.inj (hv201_3.symm.trans hx201_3)
       injection hv201_3 with hva_ hvn_ hvc_
       rw [hva_] at ge201_3
       rw [hvc_] at ul201_3
       have HL201_3 := am_ (show Kd.V k129 129 _ w.heap.size _ _ ((rd_T37 t198 x9_2).f1.f2) from Kd.V_mk ul201_3 ge201_3)
       clear hva_ hvn_ hvc_ ge201_3 ul201_3
       have hv201_4 := hcc201 4 _ rfl
       rw [add_field _ _ 4 (by omega)] at hv201_4
       replace hv201_4 := Option.some.inj (hv201_4.symm.trans hx201_4)
       injection hv201_4 with hva_ hvn_ hvc_
       rw [hva_] at ge201_4
       rw [hvc_] at ul201_4
       have HL201_4 := am_ (show Kd.V Kd.string 9 _ w.heap.size _ _ ((rd_T37 t198 x9_2).f1.f3) from Kd.V_mk ul201_4 ge201_4)
       clear hva_ hvn_ hvc_ ge201_4 ul201_4 hcc201 hce201
       have HR201_3 := am_ hi201_3
       have HC201_3 := am_ hl201_3
       clear hi201_3 hl201_3
       have HR201_4 := am_ hi201_4
       have HC201_4 := am_ hl201_4
       clear hi201_4 hl201_4
       replace p201 := eq_true p201
       replace q201 := eq_true q201
       have hnb26 := NB197_196.out
       have hnc26 := NB196_197.out
       obtain ⟨hcz27_0, hcz27_1, hcz27_2, hcz27_3, hcz27_4, hcz27_5, hfz27_0, hfz27_1, hfz27_2, hfz27_3, hfz27_4, hfz27_5⟩ := bx6 BK197
       have p202 : 0 ≤ (x7_1 : Int) := of_decide_eq_true ‹_›
       have q202 : x7_1 < (l1_3.length : Int) := of_decide_eq_true ‹_›
       obtain ⟨ad202, e202, hx202_0⟩ := Kd.at_string HR1_3.out x7_1 p202 q202
       cases e202
       replace hx202_0 := ce HB hx202_0
       replace p202 := eq_true p202
       replace q202 := eq_true q202
       go_wp2
       repeat (go_quiet (fail); try go_wp2)
       go_roundg k2
       case measure => have := HK1.out; have := HK2.out; omega
       case rel => exact ⟨((((rd_T37 t198 x9_2).f0).toList == (rdOf ByteArray.empty l1_3 x7_1).toList)), (wrap64 (x9_2 + 1)), (by first | rfl | (simp; done) | (simp [*]; done)), (by first | rfl | (simp; done) | (simp [*]; done)), H', ⟨by have := HK1.out; have := HK2.out; omega⟩, ⟨hN HO_5⟩, ⟨hR HO_6⟩, ⟨gB BK196⟩, ⟨gB BK197⟩, ⟨bh HB⟩⟩
      rw [if_neg c19] at H
      have c19b0 : decide (x9_2 < (t198.length : Int)) = false := decide_eq_false c19
      clear c19
      by_cases c28 : x8_2 = true
      ·
       subst c28
       have H1 : (selvedgeref11_Missing.l0 k2 t198 x6_1 (wrap64 (x7_1 + 1)) a1_0 a1_1 l1_2 l1_3 a1_4 a1_5) = some r := by rw [if_pos rfl] at H; exact H
       clear H
       have H := H1
       clear H1
       have H' := am_ H
       clear H
       obtain ⟨Ao29, co29, eo29⟩ := Kd.N_slice HO_5.out
       subst eo29
       go_wp2
       repeat (go_quiet (fail); try go_wp2)
       go_roundg k2
       case measure => have := HK1.out; have := HK2.out; omega
       case rel => exact ⟨(x6_1), (wrap64 (x7_1 + 1)), (by first | rfl | (simp; done) | (simp [*]; done)), H', ⟨by have := HK1.out; have := HK2.out; omega⟩, ⟨hN HO_5⟩, ⟨hR HO_6⟩, ⟨gB BK196⟩, ⟨gB BK197⟩, ⟨bh HB⟩⟩
      replace c28 := Bool.eq_false_iff.mpr c28
      subst c28
      have H1 : (if 0 ≤ x7_1 then (if x7_1 < (l1_3.length : Int) then (if x6_1.length < 8796093022208 then (selvedgeref11_Missing.l0 k2 t198 (x6_1 ++ [rdOf ByteArray.empty l1_3 x7_1]) (wrap64 (x7_1 + 1)) a1_0 a1_1 l1_2 l1_3 a1_4 a1_5) else (none)) else (none)) else (none)) = some r := by rw [if_neg (show ¬ (false = true) by decide)] at H; exact H
      clear H
      have H := H1
      clear H1
      revert H
      refine gi (fun c30b0 H => ?_)
      revert H
      refine gi (fun c31b0 H => ?_)
      revert H
      refine gi' (fun c32 H => ?_)
      have LMc32 := am_ c32
      clear c32
      obtain ⟨y204, hy204⟩ : ∃ y_ : List ByteArray, y_ = (x6_1 ++ [rdOf ByteArray.empty l1_3 x7_1]) := ⟨_, rfl⟩
      replace H : (selvedgeref11_Missing.l0 k2 t198 y204 (wrap64 (x7_1 + 1)) a1_0 a1_1 l1_2 l1_3 a1_4 a1_5) = some r := by first | (rw [hy204]; with_reducible exact H) | (have H2_ := (Option.bind_some _ _).symm.trans H; rw [hy204]; with_reducible exact H2_) | (have H2_ := (Option.bind_some _ _).symm.trans H; with_reducible exact H2_) | with_reducible exact H | (rw [hy204]; exact H) | exact H
      have Ny204 := am_ hy204
      clear hy204
      have H' := am_ H
      clear H
      obtain ⟨Ao33, co33, eo33⟩ := Kd.N_slice HO_5.out
      subst eo33
      have hnb34 := NB197_196.out
      have hnc34 := NB196_197.out
      obtain ⟨hcz35_0, hcz35_1, hcz35_2, hcz35_3, hcz35_4, hcz35_5, hfz35_0, hfz35_1, hfz35_2, hfz35_3, hfz35_4, hfz35_5⟩ := bx6 BK197
      have p203 : 0 ≤ (x7_1 : Int) := of_decide_eq_true ‹_›
      have q203 : x7_1 < (l1_3.length : Int) := of_decide_eq_true ‹_›
      obtain ⟨ad203, e203, hx203_0⟩ := Kd.at_string HR1_3.out x7_1 p203 q203
      cases e203
      replace hx203_0 := ce HB hx203_0
      replace p203 := eq_true p203
      replace q203 := eq_true q203
      go_wp2_with (first | ((with_reducible refine gate_builtin (b := .append) (xs := #[.tmp 50, .tmp 56]) rfl ?_); at_builtin; refine Kd.R_append Kd.string (w0 := w) w.heap.size rfl (.tmp 50) (.tmp 56) 31 9 (.string ⟨#[]⟩) 16 rfl Try.underlying31 info9 rfl (by decide) (by omega) u6 x6_1 (rdOf ByteArray.empty l1_3 x7_1) [.string (rdOf ByteArray.empty l1_3 x7_1)] (fun _ => True) (fun _ => False) rfl rfl ?aP (fun _ hk => hk.elim) ?aF ?aO ?aB ?aS ?aL ?_; (case aP => exact rfl); (case aB => exact (bh HB)); (case aF => exact (fun _ _ => trivial)); (case aO => exact (hR HO_6)); (case aS => exact (below_size (bh HB))); (case aL => have := LMc32.out; omega); intro v205 w36 ho hb hg hat; rw [← Ny204.out] at ho; replace HO_5 := am_ (Kd.N_afterv (ok := (fun k_ => k_ ≠ gb196 ∧ k_ ≠ gb197)) (gN HO_5) hg hat); replace BK196 := tBg BK196 hg (Kd.R_ne HO_6.out BK196.out (by decide)); replace BK197 := tBg BK197 hg (Kd.R_ne HO_6.out BK197.out (by decide)); replace HB := am_ hb; have HO206 := am_ (ho); clear HO_6 ho hb hg hat))
      (try simp only [Act.put, List.setIfInBounds_toArray, List.set_cons_zero, List.set_cons_succ])
      repeat (go_quiet (first | ((with_reducible refine gate_builtin (b := .append) (xs := #[.tmp 50, .tmp 56]) rfl ?_); at_builtin; refine Kd.R_append Kd.string (w0 := w) w.heap.size rfl (.tmp 50) (.tmp 56) 31 9 (.string ⟨#[]⟩) 16 rfl Try.underlying31 info9 rfl (by decide) (by omega) u6 x6_1 (rdOf ByteArray.empty l1_3 x7_1) [.string (rdOf ByteArray.empty l1_3 x7_1)] (fun _ => True) (fun _ => False) rfl rfl ?aP (fun _ hk => hk.elim) ?aF ?aO ?aB ?aS ?aL ?_; (case aP => exact rfl); (case aB => exact (bh HB)); (case aF => exact (fun _ _ => trivial)); (case aO => exact (hR HO_6)); (case aS => exact (below_size (bh HB))); (case aL => have := LMc32.out; omega); intro v205 w36 ho hb hg hat; rw [← Ny204.out] at ho; replace HO_5 := am_ (Kd.N_afterv (ok := (fun k_ => k_ ≠ gb196 ∧ k_ ≠ gb197)) (gN HO_5) hg hat); replace BK196 := tBg BK196 hg (Kd.R_ne HO_6.out BK196.out (by decide)); replace BK197 := tBg BK197 hg (Kd.R_ne HO_6.out BK197.out (by decide)); replace HB := am_ hb; have HO206 := am_ (ho); clear HO_6 ho hb hg hat)); try go_wp2_with (first | ((with_reducible refine gate_builtin (b := .append) (xs := #[.tmp 50, .tmp 56]) rfl ?_); at_builtin; refine Kd.R_append Kd.string (w0 := w) w.heap.size rfl (.tmp 50) (.tmp 56) 31 9 (.string ⟨#[]⟩) 16 rfl Try.underlying31 info9 rfl (by decide) (by omega) u6 x6_1 (rdOf ByteArray.empty l1_3 x7_1) [.string (rdOf ByteArray.empty l1_3 x7_1)] (fun _ => True) (fun _ => False) rfl rfl ?aP (fun _ hk => hk.elim) ?aF ?aO ?aB ?aS ?aL ?_; (case aP => exact rfl); (case aB => exact (bh HB)); (case aF => exact (fun _ _ => trivial)); (case aO => exact (hR HO_6)); (case aS => exact (below_size (bh HB))); (case aL => have := LMc32.out; omega); intro v205 w36 ho hb hg hat; rw [← Ny204.out] at ho; replace HO_5 := am_ (Kd.N_afterv (ok := (fun k_ => k_ ≠ gb196 ∧ k_ ≠ gb197)) (gN HO_5) hg hat); replace BK196 := tBg BK196 hg (Kd.R_ne HO_6.out BK196.out (by decide)); replace BK197 := tBg BK197 hg (Kd.R_ne HO_6.out BK197.out (by decide)); replace HB := am_ hb; have HO206 := am_ (ho); clear HO_6 ho hb hg hat)))
      go_roundg k2
      case measure => have := HK1.out; have := HK2.out; omega
      case rel => exact ⟨(y204), (wrap64 (x7_1 + 1)), (by first | rfl | (simp; done) | (simp [*]; done)), H', ⟨by have := HK1.out; have := HK2.out; omega⟩, ⟨gN HO_5⟩, ⟨hR HO206⟩, ⟨gB BK196⟩, ⟨gB BK197⟩, ⟨bh HB⟩⟩
   rw [if_neg c16] at H
   have c16b0 : decide (x7_1 < (l1_3.length : Int)) = false := decide_eq_false c16
   clear c16
   obtain rfl := Option.some.inj H
   have hnb37 := NB197_196.out
   have hnc37 := NB196_197.out
   obtain ⟨hcz38_0, hcz38_1, hcz38_2, hcz38_3, hcz38_4, hcz38_5, hfz38_0, hfz38_1, hfz38_2, hfz38_3, hfz38_4, hfz38_5⟩ := bx6 BK197
   go_wp2
   repeat (go_quiet (fail); try go_wp2)
   go_ret
   exact ⟨_, by first | rfl | (simp [errW_none, errW_some] <;> rfl) | (simp [*, errW_none, errW_some] <;> rfl), hR HO_6, bh HB⟩

def selvedgeref11_ahead.f (a0_0 : Int) (a0_1 : Int) (l0_2 : List (S129)) (l0_3 : List ByteArray) (a0_4 : Int) (a0_5 : Int) (a1_0 : Int) (a1_1 : Int) (l1_2 : List (S129)) (l1_3 : List ByteArray) (a1_4 : Int) (a1_5 : Int) : Option (Bool) := if a0_1 = a1_1 then (some (decide (a0_0 < a1_0))) else (some (decide (a0_1 < a1_1)))
set_option maxHeartbeats 8000000 in
set_option maxRecDepth 100000 in
theorem selvedgeref11_ahead.calls (a0_0 : Int) (a0_1 : Int) (A0_2 : Option Addr) (c0_2 : Nat) (l0_2 : List (S129)) (A0_3 : Option Addr) (c0_3 : Nat) (l0_3 : List ByteArray) (a0_4 : Int) (a0_5 : Int) (a1_0 : Int) (a1_1 : Int) (A1_2 : Option Addr) (c1_2 : Nat) (l1_2 : List (S129)) (A1_3 : Option Addr) (c1_3 : Nat) (l1_3 : List ByteArray) (a1_4 : Int) (a1_5 : Int) (r : Bool) (w : World) (hr0_2 : Kd.C k129 w A0_2 l0_2.length l0_2) (hc0_2 : l0_2.length ≤ c0_2) (hr0_3 : Kd.C Kd.string w A0_3 l0_3.length l0_3) (hc0_3 : l0_3.length ≤ c0_3) (hr1_2 : Kd.C k129 w A1_2 l1_2.length l1_2) (hc1_2 : l1_2.length ≤ c1_2) (hr1_3 : Kd.C Kd.string w A1_3 l1_3.length l1_3) (hc1_3 : l1_3.length ≤ c1_3) (h : selvedgeref11_ahead.f a0_0 a0_1 l0_2 l0_3 a0_4 a0_5 a1_0 a1_1 l1_2 l1_3 a1_4 a1_5 = some r) :
  Calls Try.prog 61 #[.agg #[.int .i64 a0_0, .int .i64 a0_1, .slice A0_2 l0_2.length c0_2, .slice A0_3 l0_3.length c0_3, .int .i64 a0_4, .int .i64 a0_5], .agg #[.int .i64 a1_0, .int .i64 a1_1, .slice A1_2 l1_2.length c1_2, .slice A1_3 l1_3.length c1_3, .int .i64 a1_4, .int .i64 a1_5]] w fun e w' => e = .returned (.bool r) ∧ Below w.heap.size w w' := by
 have hu35 := Try.underlying35
 have HR0_2 := am_ hr0_2
 have HC0_2 := am_ hc0_2
 clear hr0_2 hc0_2
 have HR0_3 := am_ hr0_3
 have HC0_3 := am_ hc0_3
 clear hr0_3 hc0_3
 have HR1_2 := am_ hr1_2
 have HC1_2 := am_ hc1_2
 clear hr1_2 hc1_2
 have HR1_3 := am_ hr1_3
 have HC1_3 := am_ hc1_3
 clear hr1_3 hc1_3
 have HB := am_ (Below.refl w.heap.size w)
 have H : (if a0_1 = a1_1 then (some (decide (a0_0 < a1_0))) else (some (decide (a0_1 < a1_1)))) = some r := h
 clear h
 by_cases c3 : a0_1 = a1_1
 ·
  rw [if_pos c3] at H
  have c3b0 : (a0_1 == a1_1) = true := beq_iff_eq.mpr c3
  have c3b1 : (a0_1 != a1_1) = false := bne_eq_false_iff_eq.mpr c3
  clear c3
  obtain rfl := Option.some.inj H
  go_enter Try.func61, Try.ntmps61
  go_wp2_with (first | ((with_reducible refine gate_dst (N := 2) rfl ?_); refine box_event ?hg (N := 2) ?hd (cs := #[.int .i64 a0_0, .int .i64 a0_1, .slice A0_2 l0_2.length c0_2, .slice A0_3 l0_3.length c0_3, .int .i64 a0_4, .int .i64 a0_5]) (t := 35) ?hr ?_; (case hd => rfl); (case hg => rfl); (case hr => first | (go_simp; done) | (go_simp; rfl)); intro gb207 hg w4 hbox hb; have BK207 := am_ hbox; have GW207 := tG HB hg; have GE207 := tG HB hg; replace HB := tHb HB hb; clear hb hbox hg) | ((with_reducible refine gate_dst (N := 3) rfl ?_); refine box_event ?hg (N := 3) ?hd (cs := #[.int .i64 a1_0, .int .i64 a1_1, .slice A1_2 l1_2.length c1_2, .slice A1_3 l1_3.length c1_3, .int .i64 a1_4, .int .i64 a1_5]) (t := 35) ?hr ?_; (case hd => rfl); (case hg => rfl); (case hr => first | (go_simp; done) | (go_simp; rfl)); intro gb208 hg w5 hbox hb; have BK208 := am_ hbox; have GW208 := tG HB hg; have GE208 := tG HB hg; replace HB := tHb HB hb; have NB207_208 := tL BK207 hg; have NB208_207 := tR BK207 hg; replace BK207 := tBb BK207 hb; clear hb hbox hg; have hnb6 := NB207_208.out; have hnc6 := NB208_207.out; obtain ⟨hcz7_0, hcz7_1, hcz7_2, hcz7_3, hcz7_4, hcz7_5, hfz7_0, hfz7_1, hfz7_2, hfz7_3, hfz7_4, hfz7_5⟩ := bx6 BK207; obtain ⟨hcz8_0, hcz8_1, hcz8_2, hcz8_3, hcz8_4, hcz8_5, hfz8_0, hfz8_1, hfz8_2, hfz8_3, hfz8_4, hfz8_5⟩ := bx6 BK208))
  go_ret
  exact ⟨by first | rfl | (simp [errW_none, errW_some] <;> rfl) | (simp [*, errW_none, errW_some] <;> rfl), bh HB⟩
 rw [if_neg c3] at H
 have c3b0 : (a0_1 == a1_1) = false := beq_eq_false_iff_ne.mpr c3
 have c3b1 : (a0_1 != a1_1) = true := bne_iff_ne.mpr c3
 obtain rfl := Option.some.inj H
 go_enter Try.func61, Try.ntmps61
 go_wp2_with (first | ((with_reducible refine gate_dst (N := 2) rfl ?_); refine box_event ?hg (N := 2) ?hd (cs := #[.int .i64 a0_0, .int .i64 a0_1, .slice A0_2 l0_2.length c0_2, .slice A0_3 l0_3.length c0_3, .int .i64 a0_4, .int .i64 a0_5]) (t := 35) ?hr ?_; (case hd => rfl); (case hg => rfl); (case hr => first | (go_simp; done) | (go_simp; rfl)); intro gb207 hg w9 hbox hb; have BK207 := am_ hbox; have GW207 := tG HB hg; have GE207 := tG HB hg; replace HB := tHb HB hb; clear hb hbox hg) | ((with_reducible refine gate_dst (N := 3) rfl ?_); refine box_event ?hg (N := 3) ?hd (cs := #[.int .i64 a1_0, .int .i64 a1_1, .slice A1_2 l1_2.length c1_2, .slice A1_3 l1_3.length c1_3, .int .i64 a1_4, .int .i64 a1_5]) (t := 35) ?hr ?_; (case hd => rfl); (case hg => rfl); (case hr => first | (go_simp; done) | (go_simp; rfl)); intro gb208 hg w10 hbox hb; have BK208 := am_ hbox; have GW208 := tG HB hg; have GE208 := tG HB hg; replace HB := tHb HB hb; have NB207_208 := tL BK207 hg; have NB208_207 := tR BK207 hg; replace BK207 := tBb BK207 hb; clear hb hbox hg; have hnb11 := NB207_208.out; have hnc11 := NB208_207.out; obtain ⟨hcz12_0, hcz12_1, hcz12_2, hcz12_3, hcz12_4, hcz12_5, hfz12_0, hfz12_1, hfz12_2, hfz12_3, hfz12_4, hfz12_5⟩ := bx6 BK207; obtain ⟨hcz13_0, hcz13_1, hcz13_2, hcz13_3, hcz13_4, hcz13_5, hfz13_0, hfz13_1, hfz13_2, hfz13_3, hfz13_4, hfz13_5⟩ := bx6 BK208))
 go_ret
 exact ⟨by first | rfl | (simp [errW_none, errW_some] <;> rfl) | (simp [*, errW_none, errW_some] <;> rfl), bh HB⟩

end Go.Proofs.Ytcbfnmabckjijaa.POrderTurns
