-- written by a program of this session (pp.py), out of the kit's print and this session's contracts
import Derived.Test.YtcbfnmabckjijaaPTuskStopsx0
import Derived.Test.YtcbfnmabckjijaaVTuskStopsPh
namespace Go.Proofs.Ytcbfnmabckjijaa.PTuskStops
open Go.RowKit Go.Proofs.YtcbfnmabckjijaaW.PrintWords Go.Proofs.YtcbfnmabckjijaaW.PrintLast Go.Proofs.YtcbfnmabckjijaaW.PrintMore
set_option linter.unusedVariables false
set_option linter.unusedSimpArgs false

def Fe.l0 : Nat → Int → List (S37) → Int → Int → Int → List (S37) → Option ((List (S37)))
 | 0, _, _, _, _, _, _ => none
 | k + 1, x1, x5, x6, x244000, x244001, x244002 => if x6 < (x244002.length : Int) then (if 0 ≤ x6 then (if ((rd_T37 x244002 x6).f1.f1) = x1 then (if x5.length < 1466015503701 then (Fe.l0 k x1 (x5 ++ [(⟨(rd_T37 x244002 x6).f0, (⟨(rd_T37 x244002 x6).f1.f0, (rd_T37 x244002 x6).f1.f1, (rd_T37 x244002 x6).f1.f2, (rd_T37 x244002 x6).f1.f3, (⟨(rd_T37 x244002 x6).f1.f4.f0, (rd_T37 x244002 x6).f1.f4.f1⟩ : S33)⟩ : S35)⟩ : S37)]) (wrap64 (x6 + 1)) x244000 x244001 x244002) else (none)) else (Fe.l0 k x1 x5 (wrap64 (x6 + 1)) x244000 x244001 x244002)) else (none)) else (some x5)
def Fe.f (k : Nat) (a0_0 : Int) (a0_1 : Int) (l0_2 : List (S37)) (a1 : Int) : Option ((List (S37))) := Fe.l0 k a1 ([] : List (S37)) 0 a0_0 a0_1 l0_2
theorem Fe.mono_l : ∀ k, (∀ y0 y1 y2 y3 y4 y5, LeO (Fe.l0 k y0 y1 y2 y3 y4 y5) (Fe.l0 (k + 1) y0 y1 y2 y3 y4 y5))
 | 0 => fun _ _ _ _ _ _ r h => by simp [Fe.l0] at h
 | k + 1 => by
  have ih0 := Fe.mono_l k
  ·
   intro y0 y1 y2 y3 y4 y5
   unfold Fe.l0
   repeat' first | (with_reducible first | exact ih0 _ _ _ _ _ _ | exact LeO.refl _ | exact LeO.none _ | refine LeO.ite ?_ ?_ | refine LeO.bind ?_ (fun _ => ?_)) | exact ih0 _ _ _ _ _ _ | refine LeO.ite ?_ ?_ | refine LeO.bind ?_ (fun _ => ?_)
theorem Fe.mono : ∀ a0 a1 a2 a3 k, LeO (Fe.f k a0 a1 a2 a3) (Fe.f (k + 1) a0 a1 a2 a3) := by
 intro a0 a1 a2 a3 k
 have ih0 := Fe.mono_l k
 unfold Fe.f
 repeat' first | (with_reducible first | exact ih0 _ _ _ _ _ _ | exact LeO.refl _ | exact LeO.none _ | refine LeO.ite ?_ ?_ | refine LeO.bind ?_ (fun _ => ?_)) | exact ih0 _ _ _ _ _ _ | refine LeO.ite ?_ ?_ | refine LeO.bind ?_ (fun _ => ?_)
set_option maxHeartbeats 8000000 in
set_option maxRecDepth 100000 in
theorem Fe.calls (k : Nat) (a0_0 : Int) (a0_1 : Int) (P0_2_ : Nat → Prop) (A0_2 : Option Addr) (c0_2 : Nat) (l0_2 : List (S37)) (a1 : Int) (r : List (S37)) (w : World) (hs0_2 : Kd.V k37 37 w w.heap.size (fun k_ => P0_2_ k_) (.slice A0_2 l0_2.length c0_2) l0_2) (h : Fe.f k a0_0 a0_1 l0_2 a1 = some r) :
  Calls Try.prog 62 #[.agg #[.int .i64 a0_0, .int .i64 a0_1, .slice A0_2 l0_2.length c0_2], .int .i64 a1] w fun e w' => ∃ v0_ : Value, e = .returned (v0_) ∧ Kd.N k37 37 w' w.heap.size (fun k_ => (P0_2_ k_ ∨ w.heap.size ≤ k_)) v0_ r ∧ Below w.heap.size w w' := by
 have hu24 := Try.underlying24
 have hu37 := Try.underlying37
 have HO0_2 := am_ (show Kd.V k37 37 w w.heap.size (fun k_ => (P0_2_ k_ ∨ w.heap.size ≤ k_)) (.slice A0_2 l0_2.length c0_2) l0_2 from Kd.V_mono hs0_2 (fun k_ hk => .inl hk))
 have HB := am_ (Below.refl w.heap.size w)
 have H : (Fe.l0 k a1 ([] : List (S37)) 0 a0_0 a0_1 l0_2) = some r := h
 clear h
 have H' := am_ H
 clear H
 go_enter Try.func62, Try.ntmps62
 go_wp2_with (first | ((with_reducible refine gd_ 2 ?_); refine be_ 2 #[.int .i64 a0_0, .int .i64 a0_1, .slice A0_2 l0_2.length c0_2] 24 ?_; intro gb243 hg w3 hbox hb; replace HO0_2 := tVe HO0_2 hg hb; have BK243 := am_ hbox; have GW243 := tG HB hg; have GE243 := tG HB hg; replace HB := tHb HB hb; clear hb hbox hg))
 go_loopg [5, 6] k (fun kq v5 v6 w' => ∃ (x5_1 : List (S37)) (x6_1 : Int), v6 = .int .i64 x6_1 ∧ Asc (Fe.l0 kq a1 x5_1 x6_1 a0_0 a0_1 l0_2 = some r) ∧ Asc (kq ≤ k) ∧ Asc (Kd.N k37 37 w' w.heap.size (fun k_ => (P0_2_ k_ ∨ w.heap.size ≤ k_) ∧ k_ ≠ gb243) v5 x5_1) ∧ Asc (Kd.V k37 37 w' w.heap.size (fun k_ => (P0_2_ k_ ∨ w.heap.size ≤ k_) ∧ some k_ ≠ (v5 : Value).ownBlock ∧ k_ ≠ gb243) (.slice A0_2 l0_2.length c0_2) l0_2) ∧ Asc (w'.heap[gb243]? = some (.cells #[.int .i64 a0_0, .int .i64 a0_1, (.slice A0_2 l0_2.length c0_2)] 24 (0, 0))) ∧ Asc (Below w.heap.size w w'))
 case atStart => exact ⟨(([] : List (S37))), (0), fr, H', ⟨Nat.le_refl _⟩, ⟨kn⟩, ⟨gV HO0_2⟩, ⟨gB BK243⟩, ⟨bh HB⟩⟩
 case round =>
  clear H'
  obtain ⟨x5_1, x6_1, rfl, HA, HK1, HO_5, HO_244002, BK243, HB⟩ := hrel
  cases gk with
  | zero => exact absurd HA.out (by simp [Fe.l0])
  | succ k1 =>
   have H := HA.out
   clear HA
   simp only [Fe.l0] at H
   by_cases c4 : x6_1 < (l0_2.length : Int)
   ·
    rw [if_pos c4] at H
    have c4b0 : decide (x6_1 < (l0_2.length : Int)) = true := decide_eq_true c4
    clear c4
    revert H
    refine gi (fun c5b0 H => ?_)
    by_cases c6 : ((rd_T37 l0_2 x6_1).f1.f1) = a1
    ·
     rw [if_pos c6] at H
     have c6b0 : (((rd_T37 l0_2 x6_1).f1.f1) == a1) = true := beq_iff_eq.mpr c6
     have c6b1 : (((rd_T37 l0_2 x6_1).f1.f1) != a1) = false := bne_eq_false_iff_eq.mpr c6
     clear c6
     revert H
     refine gi' (fun c7 H => ?_)
     have LMc7 := am_ c7
     clear c7
     obtain ⟨y246, hy246⟩ : ∃ y_ : List (S37), y_ = (x5_1 ++ [(⟨(rd_T37 l0_2 x6_1).f0, (⟨(rd_T37 l0_2 x6_1).f1.f0, (rd_T37 l0_2 x6_1).f1.f1, (rd_T37 l0_2 x6_1).f1.f2, (rd_T37 l0_2 x6_1).f1.f3, (⟨(rd_T37 l0_2 x6_1).f1.f4.f0, (rd_T37 l0_2 x6_1).f1.f4.f1⟩ : S33)⟩ : S35)⟩ : S37)]) := ⟨_, rfl⟩
     replace H : (Fe.l0 k1 a1 y246 (wrap64 (x6_1 + 1)) a0_0 a0_1 l0_2) = some r := by first | (rw [hy246]; with_reducible exact H) | (have H := (Option.bind_some _ _).symm.trans H; first | (rw [hy246]; with_reducible exact H) | with_reducible exact H) | with_reducible exact H | (rw [hy246]; exact H) | exact H
     have Ny246 := am_ hy246
     clear hy246
     have H' := am_ H
     clear H
     obtain ⟨z8_0, z8_1, z8_2, y8_0, y8_1, y8_2⟩ := bx3 BK243
     have p244 : 0 ≤ (x6_1 : Int) := dt
     have q244 : x6_1 < (l0_2.length : Int) := dt
     obtain ⟨ad244, A244_3, c244_3, A244_4, c244_4, e244, hx244_0, hx244_1, hx244_2, hx244_3, hx244_4, hx244_5, hx244_6, hl244_3, hi244_3, hl244_4, hi244_4⟩ := at_T37 (Kd.V_reads' HO_244002.out).2.2 x6_1 p244 q244
     cases e244
     obtain ⟨ce244, hce244, hMe244, hcc244⟩ := Kd.V_get HO_244002.out z37 x6_1 p244 (by first | exact q244 | exact dt | (have e_ := (Kd.V_reads' HO_244002.out).1; omega))
     obtain ⟨ua244_3, uc244_3, ua244_4, uc244_4, rfl, ul244_3, ge244_3, ul244_4, ge244_4⟩ := k37_openF hMe244
     have hv244_3 := hcc244 3 _ rfl
     rw [add_field _ _ 3 (by omega)] at hv244_3
     replace hv244_3 := Option.some.inj (hv244_3.symm.trans hx244_3)
     injection hv244_3 with hva_ hvn_ hvc_
     rw [hva_] at ge244_3
     rw [hvc_] at ul244_3
     have HL244_3 := am_ (show Kd.V k129 129 _ w.heap.size _ _ ((rd_T37 l0_2 x6_1).f1.f2) from Kd.V_mk ul244_3 ge244_3)
     clear hva_ hvn_ hvc_ ge244_3 ul244_3
     have hv244_4 := hcc244 4 _ rfl
     rw [add_field _ _ 4 (by omega)] at hv244_4
     replace hv244_4 := Option.some.inj (hv244_4.symm.trans hx244_4)
     injection hv244_4 with hva_ hvn_ hvc_
     rw [hva_] at ge244_4
     rw [hvc_] at ul244_4
     have HL244_4 := am_ (show Kd.V Kd.string 9 _ w.heap.size _ _ ((rd_T37 l0_2 x6_1).f1.f3) from Kd.V_mk ul244_4 ge244_4)
     clear hva_ hvn_ hvc_ ge244_4 ul244_4 hcc244 hce244
     have HR244_3 := am_ hi244_3
     have HC244_3 := am_ hl244_3
     clear hi244_3 hl244_3
     have HR244_4 := am_ hi244_4
     have HC244_4 := am_ hl244_4
     clear hi244_4 hl244_4
     replace p244 := eq_true p244
     replace q244 := eq_true q244
     have p245 : 0 ≤ (x6_1 : Int) := dt
     have q245 : x6_1 < (l0_2.length : Int) := dt
     obtain ⟨ad245, A245_3, c245_3, A245_4, c245_4, e245, hx245_0, hx245_1, hx245_2, hx245_3, hx245_4, hx245_5, hx245_6, hl245_3, hi245_3, hl245_4, hi245_4⟩ := at_T37 (Kd.V_reads' HO_244002.out).2.2 x6_1 p245 q245
     obtain rfl : ad244 = ad245 := (by injection e245)
     obtain ⟨ce245, hce245, hMe245, hcc245⟩ := Kd.V_get HO_244002.out z37 x6_1 p245 (by first | exact q245 | exact dt | (have e_ := (Kd.V_reads' HO_244002.out).1; omega))
     obtain ⟨ua245_3, uc245_3, ua245_4, uc245_4, rfl, ul245_3, ge245_3, ul245_4, ge245_4⟩ := k37_openF hMe245
     have hv245_3 := hcc245 3 _ rfl
     rw [add_field _ _ 3 (by omega)] at hv245_3
     replace hv245_3 := Option.some.inj (hv245_3.symm.trans hx245_3)
     injection hv245_3 with hva_ hvn_ hvc_
     rw [hva_] at ge245_3
     rw [hvc_] at ul245_3
     have HL245_3 := am_ (show Kd.V k129 129 _ w.heap.size _ _ ((rd_T37 l0_2 x6_1).f1.f2) from Kd.V_mk ul245_3 ge245_3)
     clear hva_ hvn_ hvc_ ge245_3 ul245_3
     have hv245_4 := hcc245 4 _ rfl
     rw [add_field _ _ 4 (by omega)] at hv245_4
     replace hv245_4 := Option.some.inj (hv245_4.symm.trans hx245_4)
     injection hv245_4 with hva_ hvn_ hvc_
     rw [hva_] at ge245_4
     rw [hvc_] at ul245_4
     have HL245_4 := am_ (show Kd.V Kd.string 9 _ w.heap.size _ _ ((rd_T37 l0_2 x6_1).f1.f3) from Kd.V_mk ul245_4 ge245_4)
     clear hva_ hvn_ hvc_ ge245_4 ul245_4 hcc245 hce245
     have HR245_3 := am_ hi245_3
     have HC245_3 := am_ hl245_3
     clear hi245_3 hl245_3
     have HR245_4 := am_ hi245_4
     have HC245_4 := am_ hl245_4
     clear hi245_4 hl245_4
     replace p245 := eq_true p245
     replace q245 := eq_true q245
     have ea_ := Option.some.inj (hx244_3.symm.trans hx245_3)
     injection ea_ with ea_ en_ ec_
     subst ea_
     subst ec_
     clear en_
     have ea_ := Option.some.inj (hx244_4.symm.trans hx245_4)
     injection ea_ with ea_ en_ ec_
     subst ea_
     subst ec_
     clear en_
     go_wp2_with (first | ((with_reducible refine gate_builtin (b := .append) (xs := #[.tmp 23, .tmp 29]) rfl ?_); at_builtin; refine Kd.N_append k37 (w0 := w) w.heap.size rfl (.tmp 23) (.tmp 29) 22 37 (.agg #[(.string ⟨#[]⟩), (.int .i64 0), (.int .i64 0), (.slice none 0 0), (.slice none 0 0), (.int .i64 0), (.int .i64 0)]) 96 rfl Try.underlying22 info37 rfl (by decide) (by omega) u5 x5_1 (⟨(rd_T37 l0_2 x6_1).f0, (⟨(rd_T37 l0_2 x6_1).f1.f0, (rd_T37 l0_2 x6_1).f1.f1, (rd_T37 l0_2 x6_1).f1.f2, (rd_T37 l0_2 x6_1).f1.f3, (⟨(rd_T37 l0_2 x6_1).f1.f4.f0, (rd_T37 l0_2 x6_1).f1.f4.f1⟩ : S33)⟩ : S35)⟩ : S37) [.string ((rd_T37 l0_2 x6_1).f0), .int .i64 ((rd_T37 l0_2 x6_1).f1.f0), .int .i64 ((rd_T37 l0_2 x6_1).f1.f1), .slice A244_3 ((rd_T37 l0_2 x6_1).f1.f2).length c244_3, .slice A244_4 ((rd_T37 l0_2 x6_1).f1.f3).length c244_4, .int .i64 ((rd_T37 l0_2 x6_1).f1.f4.f0), .int .i64 ((rd_T37 l0_2 x6_1).f1.f4.f1)] (fun k_ => (P0_2_ k_ ∨ w.heap.size ≤ k_) ∧ k_ ≠ gb243) (fun k_ => ((fun k_ => (P0_2_ k_ ∨ w.heap.size ≤ k_) ∧ k_ ≠ gb243)) k_ ∧ some k_ ≠ (u5 : Value).ownBlock) rfl rfl ?aP (fun _ hk => hk) ?aF ?aO ?aB ?aS ?aL ?_; (case aP => exact (k37_mkF _ _ (⟨(rd_T37 l0_2 x6_1).f0, (⟨(rd_T37 l0_2 x6_1).f1.f0, (rd_T37 l0_2 x6_1).f1.f1, (rd_T37 l0_2 x6_1).f1.f2, (rd_T37 l0_2 x6_1).f1.f3, (⟨(rd_T37 l0_2 x6_1).f1.f4.f0, (rd_T37 l0_2 x6_1).f1.f4.f1⟩ : S33)⟩ : S35)⟩ : S37) (Kd.V_reads' (Kd.V_mono (ok' := (fun k_ => ((fun k_ => (P0_2_ k_ ∨ w.heap.size ≤ k_) ∧ k_ ≠ gb243)) k_ ∧ some k_ ≠ (u5 : Value).ownBlock)) (HL245_3.out) (fun k_ hk => ⟨⟨hk.1, hk.2.2⟩, hk.2.1⟩))).2.1 (Kd.V_F (Kd.V_mono (ok' := (fun k_ => ((fun k_ => (P0_2_ k_ ∨ w.heap.size ≤ k_) ∧ k_ ≠ gb243)) k_ ∧ some k_ ≠ (u5 : Value).ownBlock)) (HL245_3.out) (fun k_ hk => ⟨⟨hk.1, hk.2.2⟩, hk.2.1⟩))) (Kd.V_reads' (Kd.V_mono (ok' := (fun k_ => ((fun k_ => (P0_2_ k_ ∨ w.heap.size ≤ k_) ∧ k_ ≠ gb243)) k_ ∧ some k_ ≠ (u5 : Value).ownBlock)) (HL245_4.out) (fun k_ hk => ⟨⟨hk.1, hk.2.2⟩, hk.2.1⟩))).2.1 (Kd.V_F (Kd.V_mono (ok' := (fun k_ => ((fun k_ => (P0_2_ k_ ∨ w.heap.size ≤ k_) ∧ k_ ≠ gb243)) k_ ∧ some k_ ≠ (u5 : Value).ownBlock)) (HL245_4.out) (fun k_ hk => ⟨⟨hk.1, hk.2.2⟩, hk.2.1⟩))))); (case aB => exact (bh HB)); (case aF => exact (fun k_ hk => ⟨(.inr (Nat.le_trans (below_size (bh HB)) hk)), gFr BK243 k_ hk⟩)); (case aO => exact (hN HO_5)); (case aS => exact (below_size (bh HB))); (case aL => have := LMc7.out; omega); intro v247 w9 ho hb hg hat; rw [← Ny246.out] at ho; replace HO_244002 := am_ (Kd.V_afterv (ok := (fun k_ => (P0_2_ k_ ∨ w.heap.size ≤ k_) ∧ k_ ≠ gb243)) (gV HO_244002) hg hat); replace BK243 := tBg BK243 hg (Kd.N_ne HO_5.out BK243.out (by decide)); replace HL244_3 := am_ (Kd.V_afterv (ok := (fun k_ => (P0_2_ k_ ∨ w.heap.size ≤ k_) ∧ k_ ≠ gb243)) (gV HL244_3) hg hat); replace HL244_4 := am_ (Kd.V_afterv (ok := (fun k_ => (P0_2_ k_ ∨ w.heap.size ≤ k_) ∧ k_ ≠ gb243)) (gV HL244_4) hg hat); replace HL245_3 := am_ (Kd.V_afterv (ok := (fun k_ => (P0_2_ k_ ∨ w.heap.size ≤ k_) ∧ k_ ≠ gb243)) (gV HL245_3) hg hat); replace HL245_4 := am_ (Kd.V_afterv (ok := (fun k_ => (P0_2_ k_ ∨ w.heap.size ≤ k_) ∧ k_ ≠ gb243)) (gV HL245_4) hg hat); replace HB := am_ hb; have HO248 := am_ (ho); clear HO_5 ho hb hg hat))
     go_roundg k1
     case measure => have := HK1.out; omega
     case rel => exact ⟨(y246), (wrap64 (x6_1 + 1)), fr, H', kS HK1, ⟨hN HO248⟩, ⟨gV HO_244002⟩, ⟨gB BK243⟩, ⟨bh HB⟩⟩
    rw [if_neg c6] at H
    have c6b0 : (((rd_T37 l0_2 x6_1).f1.f1) == a1) = false := beq_eq_false_iff_ne.mpr c6
    have c6b1 : (((rd_T37 l0_2 x6_1).f1.f1) != a1) = true := bne_iff_ne.mpr c6
    have H' := am_ H
    clear H
    obtain ⟨z10_0, z10_1, z10_2, y10_0, y10_1, y10_2⟩ := bx3 BK243
    have p244 : 0 ≤ (x6_1 : Int) := dt
    have q244 : x6_1 < (l0_2.length : Int) := dt
    obtain ⟨ad244, A244_3, c244_3, A244_4, c244_4, e244, hx244_0, hx244_1, hx244_2, hx244_3, hx244_4, hx244_5, hx244_6, hl244_3, hi244_3, hl244_4, hi244_4⟩ := at_T37 (Kd.V_reads' HO_244002.out).2.2 x6_1 p244 q244
    cases e244
    obtain ⟨ce244, hce244, hMe244, hcc244⟩ := Kd.V_get HO_244002.out z37 x6_1 p244 (by first | exact q244 | exact dt | (have e_ := (Kd.V_reads' HO_244002.out).1; omega))
    obtain ⟨ua244_3, uc244_3, ua244_4, uc244_4, rfl, ul244_3, ge244_3, ul244_4, ge244_4⟩ := k37_openF hMe244
    have hv244_3 := hcc244 3 _ rfl
    rw [add_field _ _ 3 (by omega)] at hv244_3
    replace hv244_3 := Option.some.inj (hv244_3.symm.trans hx244_3)
    injection hv244_3 with hva_ hvn_ hvc_
    rw [hva_] at ge244_3
    rw [hvc_] at ul244_3
    have HL244_3 := am_ (show Kd.V k129 129 _ w.heap.size _ _ ((rd_T37 l0_2 x6_1).f1.f2) from Kd.V_mk ul244_3 ge244_3)
    clear hva_ hvn_ hvc_ ge244_3 ul244_3
    have hv244_4 := hcc244 4 _ rfl
    rw [add_field _ _ 4 (by omega)] at hv244_4
    replace hv244_4 := Option.some.inj (hv244_4.symm.trans hx244_4)
    injection hv244_4 with hva_ hvn_ hvc_
    rw [hva_] at ge244_4
    rw [hvc_] at ul244_4
    have HL244_4 := am_ (show Kd.V Kd.string 9 _ w.heap.size _ _ ((rd_T37 l0_2 x6_1).f1.f3) from Kd.V_mk ul244_4 ge244_4)
    clear hva_ hvn_ hvc_ ge244_4 ul244_4 hcc244 hce244
    have HR244_3 := am_ hi244_3
    have HC244_3 := am_ hl244_3
    clear hi244_3 hl244_3
    have HR244_4 := am_ hi244_4
    have HC244_4 := am_ hl244_4
    clear hi244_4 hl244_4
    replace p244 := eq_true p244
    replace q244 := eq_true q244
    go_wp2
    go_roundg k1
    case measure => have := HK1.out; omega
    case rel => exact ⟨(x5_1), (wrap64 (x6_1 + 1)), fr, H', kS HK1, ⟨hN HO_5⟩, ⟨hV HO_244002⟩, ⟨gB BK243⟩, ⟨bh HB⟩⟩
   rw [if_neg c4] at H
   have c4b0 : decide (x6_1 < (l0_2.length : Int)) = false := decide_eq_false c4
   clear c4
   obtain rfl := Option.some.inj H
   obtain ⟨z11_0, z11_1, z11_2, y11_0, y11_1, y11_2⟩ := bx3 BK243
   go_wp2
   go_ret
   exact ⟨_, fe, gN HO_5, bh HB⟩

def Fp.l0 : Nat → List ByteArray → ByteArray → Int → Option (List ByteArray)
 | 0, _, _, _ => none
 | k + 1, x0, x1, x5 => if x5 < (x0.length : Int) then (if 0 ≤ x5 then (if (Op.bytesLess ((rdOf ByteArray.empty x0 x5).toList) x1.toList) = true then (Fp.l0 k x0 x1 (wrap64 (x5 + 1))) else ((some (([] : List ByteArray) : List ByteArray)).bind fun y250 => (if x5 ≤ (x0.length : Int) then (if y250.length + (x0.take (x5 : Int).toNat).length < 8796093022208 then ((some (y250 ++ (x0.take (x5 : Int).toNat) : List ByteArray)).bind fun y254 => (if y254.length < 8796093022208 then ((some (y254 ++ [x1] : List ByteArray)).bind fun y257 => (if y257.length + (x0.drop (x5 : Int).toNat).length < 8796093022208 then (some (y257 ++ (x0.drop (x5 : Int).toNat))) else (none))) else (none))) else (none)) else (none)))) else (none)) else ((some (([] : List ByteArray) : List ByteArray)).bind fun y264 => (if 0 ≤ x5 then (if x5 ≤ (x0.length : Int) then (if y264.length + (x0.take (x5 : Int).toNat).length < 8796093022208 then ((some (y264 ++ (x0.take (x5 : Int).toNat) : List ByteArray)).bind fun y268 => (if y268.length < 8796093022208 then ((some (y268 ++ [x1] : List ByteArray)).bind fun y271 => (if y271.length + (x0.drop (x5 : Int).toNat).length < 8796093022208 then (some (y271 ++ (x0.drop (x5 : Int).toNat))) else (none))) else (none))) else (none)) else (none)) else (none)))
def Fp.f (k : Nat) (l0 : List ByteArray) (a1 : ByteArray) : Option (List ByteArray) := Fp.l0 k l0 a1 0
theorem Fp.mono_l : ∀ k, (∀ y0 y1 y2, LeO (Fp.l0 k y0 y1 y2) (Fp.l0 (k + 1) y0 y1 y2))
 | 0 => fun _ _ _ r h => by simp [Fp.l0] at h
 | k + 1 => by
  have ih0 := Fp.mono_l k
  ·
   intro y0 y1 y2
   unfold Fp.l0
   repeat' first | (with_reducible first | exact ih0 _ _ _ | exact LeO.refl _ | exact LeO.none _ | refine LeO.ite ?_ ?_ | refine LeO.bind ?_ (fun _ => ?_)) | exact ih0 _ _ _ | refine LeO.ite ?_ ?_ | refine LeO.bind ?_ (fun _ => ?_)
theorem Fp.mono : ∀ a0 a1 k, LeO (Fp.f k a0 a1) (Fp.f (k + 1) a0 a1) := by
 intro a0 a1 k
 have ih0 := Fp.mono_l k
 unfold Fp.f
 repeat' first | (with_reducible first | exact ih0 _ _ _ | exact LeO.refl _ | exact LeO.none _ | refine LeO.ite ?_ ?_ | refine LeO.bind ?_ (fun _ => ?_)) | exact ih0 _ _ _ | refine LeO.ite ?_ ?_ | refine LeO.bind ?_ (fun _ => ?_)
set_option maxHeartbeats 8000000 in
set_option maxRecDepth 100000 in
theorem Fp.calls (k : Nat) (A0 : Option Addr) (c0 : Nat) (l0 : List ByteArray) (a1 : ByteArray) (r : List ByteArray) (w : World) (hr0 : Kd.C Kd.string w A0 l0.length l0) (hc0 : l0.length ≤ c0) (h : Fp.f k l0 a1 = some r) :
  Calls Try.prog 63 #[.slice A0 l0.length c0, .string a1] w fun e w' => ∃ v0_ : Value, e = .returned (v0_) ∧ Kd.R Kd.string 9 w' w.heap.size (fun _ => True) v0_ r ∧ Below w.heap.size w w' := by
 have HR0 := am_ hr0
 have HC0 := am_ hc0
 clear hr0 hc0
 have HB := am_ (Below.refl w.heap.size w)
 have H : (Fp.l0 k l0 a1 0) = some r := h
 clear h
 have H' := am_ H
 clear H
 go_enter Try.func63, Try.ntmps63
 go_wp2
 go_loopg [5] k (fun kq v5 w' => ∃ (x5_1 : Int), v5 = .int .i64 x5_1 ∧ Asc (Fp.l0 kq l0 a1 x5_1 = some r) ∧ Asc (kq ≤ k) ∧ Asc (Below w.heap.size w w'))
 case atStart => exact ⟨(0), fr, H', ⟨Nat.le_refl _⟩, ⟨bh HB⟩⟩
 case round =>
  clear H'
  obtain ⟨x5_1, rfl, HA, HK1, HB⟩ := hrel
  cases gk with
  | zero => exact absurd HA.out (by simp [Fp.l0])
  | succ k1 =>
   have H := HA.out
   clear HA
   simp only [Fp.l0] at H
   by_cases c3 : x5_1 < (l0.length : Int)
   ·
    rw [if_pos c3] at H
    have c3b0 : decide (x5_1 < (l0.length : Int)) = true := decide_eq_true c3
    clear c3
    revert H
    refine gi (fun c4b0 H => ?_)
    by_cases c5 : (Op.bytesLess ((rdOf ByteArray.empty l0 x5_1).toList) a1.toList) = true
    ·
     rw [if_pos c5] at H
     have c5b0 : (Op.bytesLess ((rdOf ByteArray.empty l0 x5_1).toList) a1.toList) = true := c5
     clear c5
     have H' := am_ H
     clear H
     have p249 : 0 ≤ (x5_1 : Int) := dt
     have q249 : x5_1 < (l0.length : Int) := dt
     obtain ⟨ad249, e249, hx249_0⟩ := Kd.at_string HR0.out x5_1 p249 q249
     cases e249
     replace hx249_0 := ce HB hx249_0
     replace p249 := eq_true p249
     replace q249 := eq_true q249
     go_wp2
     go_roundg k1
     case measure => have := HK1.out; omega
     case rel => exact ⟨(wrap64 (x5_1 + 1)), fr, H', kS HK1, ⟨bh HB⟩⟩
    rw [if_neg c5] at H
    have c5b0 : (Op.bytesLess ((rdOf ByteArray.empty l0 x5_1).toList) a1.toList) = false := by simpa using c5
    clear c5
    obtain ⟨y250, hy250⟩ : ∃ y_ : List ByteArray, y_ = (([] : List ByteArray)) := ⟨_, rfl⟩
    replace H : (if x5_1 ≤ (l0.length : Int) then (if y250.length + (l0.take (x5_1 : Int).toNat).length < 8796093022208 then ((some (y250 ++ (l0.take (x5_1 : Int).toNat) : List ByteArray)).bind fun y254 => (if y254.length < 8796093022208 then ((some (y254 ++ [a1] : List ByteArray)).bind fun y257 => (if y257.length + (l0.drop (x5_1 : Int).toNat).length < 8796093022208 then (some (y257 ++ (l0.drop (x5_1 : Int).toNat))) else (none))) else (none))) else (none)) else (none)) = some r := by first | (rw [hy250]; with_reducible exact H) | (have H := (Option.bind_some _ _).symm.trans H; first | (rw [hy250]; with_reducible exact H) | with_reducible exact H) | with_reducible exact H | (rw [hy250]; exact H) | exact H
    have Ny250 := am_ hy250
    clear hy250
    have c6b0 := eq_true (dt : 0 ≤ x5_1)
    revert H
    refine gi' (fun c7 H => ?_)
    have c7b0 := eq_true c7
    have c7b1 : decide (x5_1 ≤ (l0.length : Int)) = true := decide_eq_true c7
    clear c7
    revert H
    refine gi' (fun c8 H => ?_)
    have LMc8 := am_ c8
    clear c8
    obtain ⟨y254, hy254⟩ : ∃ y_ : List ByteArray, y_ = (y250 ++ (l0.take (x5_1 : Int).toNat)) := ⟨_, rfl⟩
    replace H : (if y254.length < 8796093022208 then ((some (y254 ++ [a1] : List ByteArray)).bind fun y257 => (if y257.length + (l0.drop (x5_1 : Int).toNat).length < 8796093022208 then (some (y257 ++ (l0.drop (x5_1 : Int).toNat))) else (none))) else (none)) = some r := by first | (rw [hy254]; with_reducible exact H) | (have H := (Option.bind_some _ _).symm.trans H; first | (rw [hy254]; with_reducible exact H) | with_reducible exact H) | with_reducible exact H | (rw [hy254]; exact H) | exact H
    have Ny254 := am_ hy254
    clear hy254
    revert H
    refine gi' (fun c9 H => ?_)
    have LMc9 := am_ c9
    clear c9
    obtain ⟨y257, hy257⟩ : ∃ y_ : List ByteArray, y_ = (y254 ++ [a1]) := ⟨_, rfl⟩
    replace H : (if y257.length + (l0.drop (x5_1 : Int).toNat).length < 8796093022208 then (some (y257 ++ (l0.drop (x5_1 : Int).toNat))) else (none)) = some r := by first | (rw [hy257]; with_reducible exact H) | (have H := (Option.bind_some _ _).symm.trans H; first | (rw [hy257]; with_reducible exact H) | with_reducible exact H) | with_reducible exact H | (rw [hy257]; exact H) | exact H
    have Ny257 := am_ hy257
    clear hy257
    have c10b0 := eq_true (dt : 0 ≤ x5_1)
    have c11b0 := eq_true (dt : x5_1 ≤ (l0.length : Int))
    revert H
    refine gi' (fun c12 H => ?_)
    have LMc12 := am_ c12
    clear c12
    obtain ⟨y261, hy261⟩ : ∃ y_ : List ByteArray, y_ = (y257 ++ (l0.drop (x5_1 : Int).toNat)) := ⟨_, rfl⟩
    replace H : (some y261) = some r := by first | (rw [hy261]; with_reducible exact H) | (have H := (Option.bind_some _ _).symm.trans H; first | (rw [hy261]; with_reducible exact H) | with_reducible exact H) | with_reducible exact H | (rw [hy261]; exact H) | exact H
    have Ny261 := am_ hy261
    clear hy261
    obtain rfl := Option.some.inj H
    have p249 : 0 ≤ (x5_1 : Int) := dt
    have q249 : x5_1 < (l0.length : Int) := dt
    obtain ⟨ad249, e249, hx249_0⟩ := Kd.at_string HR0.out x5_1 p249 q249
    cases e249
    replace hx249_0 := ce HB hx249_0
    replace p249 := eq_true p249
    replace q249 := eq_true q249
    go_wp2_with (first | ((with_reducible refine gd_ 21 ?_); refine Kd.R_lit Kd.string _ 9 ?hg (N := 21) ?hd (xs := ([] : List ByteArray)) (inner := []) (ok := fun _ => True) (okp := fun _ => True) ?hr ?hp (fun _ hk => hk) trivial (Below.refl _ _) (Nat.le_refl _) (by simp) ?_; (case hd => rfl); (case hg => rfl); (case hr => first | (go_simp; done) | (go_simp; rfl)); (case hp => exact (Reps.none _ _)); intro v251 w13 ho14 hb hg_ hnew_; clear hg_ hnew_; (first | rw [← Ny250.out] at ho14 | (simp only [Int.reduceToNat] at ho14; rw [← Ny250.out] at ho14)); have HO252 := am_ (Kd.R_lower ho14 (below_size (bh HB))); replace HB := tHb HB hb; clear hb ho14; obtain ⟨i015, hi015, _, hsz15, _⟩ := info_parts info9; obtain ⟨hcut15, hA15, hC15⟩ := print_take_of (P := Try.prog) Value.string (⟨#[]⟩ : ByteArray) 31 9 .i64 Try.underlying31 hi015 hsz15 (some ad249) c0 l0 x5_1 (dt) (dt) HC0.out; have HR253 := am_ (Kd.C_of_reads (h1 := fun _ => rfl) (hA15 _ (Kd.reads_of_C HR0.out))); have HC253 := am_ hC15; clear hA15 hC15 hi015 hsz15) | ((with_reducible refine gate_builtin (b := .append) (xs := #[.tmp 21, .tmp 24]) rfl ?_); at_builtin; refine Kd.R_append_rows Kd.string (w0 := w) w.heap.size rfl (.tmp 21) (.tmp 24) 31 9 (.string ⟨#[]⟩) 16 rfl Try.underlying31 info9 rfl (by decide) (by omega) v251 y250 (l0.take (x5_1 : Int).toNat) _ _ _ (fun _ => True) (fun _ => False) rfl rfl ?aO ?aR (fun _ _ h => h) (fun _ h => h.elim) ?aF ?aB ?aS ?aL ?_; (case aR => first | (have h1_ := (Kd.C_below HR253.out HB.out); rw [show (l0.take (x5_1 : Int).toNat).length = x5_1.toNat from (by rw [List.length_take]; have h_ : (x5_1 : Int) ≤ (l0.length : Int) := dt; omega)] at h1_; exact h1_) | (rw [← show (l0.take (x5_1 : Int).toNat).length = x5_1.toNat from (by rw [List.length_take]; have h_ : (x5_1 : Int) ≤ (l0.length : Int) := dt; omega)]; exact gCB HR253 HB) | (exact gCB HR253 HB)); (case aB => exact (bh HB)); (case aF => exact (fun _ _ => trivial)); (case aO => exact (hR HO252)); (case aS => exact (below_size (bh HB))); (case aL => have := LMc8.out; have hlx_ := (show (l0.take (x5_1 : Int).toNat).length = x5_1.toNat from (by rw [List.length_take]; have h_ : (x5_1 : Int) ≤ (l0.length : Int) := dt; omega)); omega); intro v255 w16 ho hb hg hat; rw [← Ny254.out] at ho; replace HB := am_ hb; have HO256 := am_ (ho); clear HO252 ho hb hg hat) | ((with_reducible refine gate_builtin (b := .append) (xs := #[.tmp 26, .tmp 28]) rfl ?_); at_builtin; refine Kd.R_append Kd.string (w0 := w) w.heap.size rfl (.tmp 26) (.tmp 28) 31 9 (.string ⟨#[]⟩) 16 rfl Try.underlying31 info9 rfl (by decide) (by omega) v255 y254 a1 [.string a1] (fun _ => True) (fun _ => False) rfl rfl ?aP (fun _ hk => hk.elim) ?aF ?aO ?aB ?aS ?aL ?_; (case aP => exact rfl); (case aB => exact (bh HB)); (case aF => exact (fun _ _ => trivial)); (case aO => exact (hR HO256)); (case aS => exact (below_size (bh HB))); (case aL => have := LMc9.out; omega); intro v258 w17 ho hb hg hat; rw [← Ny257.out] at ho; replace HB := am_ hb; have HO259 := am_ (ho); clear HO256 ho hb hg hat; obtain ⟨i018, hi018, _, hsz18, _⟩ := info_parts info9; obtain ⟨A18, hcut18, hA18, hC18⟩ := print_drop_of (P := Try.prog) Value.string (⟨#[]⟩ : ByteArray) 31 9 .i64 Try.underlying31 hi018 hsz18 (some ad249) c0 l0 x5_1 (dt) (dt) HC0.out; have HR260 := am_ (Kd.C_of_reads (h1 := fun _ => rfl) (hA18 _ (Kd.reads_of_C HR0.out))); have HC260 := am_ hC18; clear hA18 hC18 hi018 hsz18) | ((with_reducible refine gate_builtin (b := .append) (xs := #[.tmp 30, .tmp 33]) rfl ?_); at_builtin; refine Kd.R_append_rows Kd.string (w0 := w) w.heap.size rfl (.tmp 30) (.tmp 33) 31 9 (.string ⟨#[]⟩) 16 rfl Try.underlying31 info9 rfl (by decide) (by omega) v258 y257 (l0.drop (x5_1 : Int).toNat) _ _ _ (fun _ => True) (fun _ => False) rfl rfl ?aO ?aR (fun _ _ h => h) (fun _ h => h.elim) ?aF ?aB ?aS ?aL ?_; (case aR => first | (rw [← show (l0.drop (x5_1 : Int).toNat).length = (l0.length - x5_1.toNat) from List.length_drop]; exact gCB HR260 HB) | (exact gCB HR260 HB)); (case aB => exact (bh HB)); (case aF => exact (fun _ _ => trivial)); (case aO => exact (hR HO259)); (case aS => exact (below_size (bh HB))); (case aL => have := LMc12.out; have hlx_ := (show (l0.drop (x5_1 : Int).toNat).length = (l0.length - x5_1.toNat) from List.length_drop); omega); intro v262 w19 ho hb hg hat; rw [← Ny261.out] at ho; replace HB := am_ hb; have HO263 := am_ (ho); clear HO259 ho hb hg hat))
    go_ret
    exact ⟨_, fe, hR HO263, bh HB⟩
   rw [if_neg c3] at H
   have c3b0 : decide (x5_1 < (l0.length : Int)) = false := decide_eq_false c3
   clear c3
   obtain ⟨y264, hy264⟩ : ∃ y_ : List ByteArray, y_ = (([] : List ByteArray)) := ⟨_, rfl⟩
   replace H : (if 0 ≤ x5_1 then (if x5_1 ≤ (l0.length : Int) then (if y264.length + (l0.take (x5_1 : Int).toNat).length < 8796093022208 then ((some (y264 ++ (l0.take (x5_1 : Int).toNat) : List ByteArray)).bind fun y268 => (if y268.length < 8796093022208 then ((some (y268 ++ [a1] : List ByteArray)).bind fun y271 => (if y271.length + (l0.drop (x5_1 : Int).toNat).length < 8796093022208 then (some (y271 ++ (l0.drop (x5_1 : Int).toNat))) else (none))) else (none))) else (none)) else (none)) else (none)) = some r := by first | (rw [hy264]; with_reducible exact H) | (have H := (Option.bind_some _ _).symm.trans H; first | (rw [hy264]; with_reducible exact H) | with_reducible exact H) | with_reducible exact H | (rw [hy264]; exact H) | exact H
   have Ny264 := am_ hy264
   clear hy264
   by_cases c20 : 0 ≤ x5_1
   ·
    rw [if_pos c20] at H
    have c20b0 := eq_true c20
    have c20b1 : decide (0 ≤ x5_1) = true := decide_eq_true c20
    clear c20
    revert H
    refine gi' (fun c21 H => ?_)
    have c21b0 := eq_true c21
    have c21b1 : decide (x5_1 ≤ (l0.length : Int)) = true := decide_eq_true c21
    clear c21
    revert H
    refine gi' (fun c22 H => ?_)
    have LMc22 := am_ c22
    clear c22
    obtain ⟨y268, hy268⟩ : ∃ y_ : List ByteArray, y_ = (y264 ++ (l0.take (x5_1 : Int).toNat)) := ⟨_, rfl⟩
    replace H : (if y268.length < 8796093022208 then ((some (y268 ++ [a1] : List ByteArray)).bind fun y271 => (if y271.length + (l0.drop (x5_1 : Int).toNat).length < 8796093022208 then (some (y271 ++ (l0.drop (x5_1 : Int).toNat))) else (none))) else (none)) = some r := by first | (rw [hy268]; with_reducible exact H) | (have H := (Option.bind_some _ _).symm.trans H; first | (rw [hy268]; with_reducible exact H) | with_reducible exact H) | with_reducible exact H | (rw [hy268]; exact H) | exact H
    have Ny268 := am_ hy268
    clear hy268
    revert H
    refine gi' (fun c23 H => ?_)
    have LMc23 := am_ c23
    clear c23
    obtain ⟨y271, hy271⟩ : ∃ y_ : List ByteArray, y_ = (y268 ++ [a1]) := ⟨_, rfl⟩
    replace H : (if y271.length + (l0.drop (x5_1 : Int).toNat).length < 8796093022208 then (some (y271 ++ (l0.drop (x5_1 : Int).toNat))) else (none)) = some r := by first | (rw [hy271]; with_reducible exact H) | (have H := (Option.bind_some _ _).symm.trans H; first | (rw [hy271]; with_reducible exact H) | with_reducible exact H) | with_reducible exact H | (rw [hy271]; exact H) | exact H
    have Ny271 := am_ hy271
    clear hy271
    have c24b0 := eq_true (dt : 0 ≤ x5_1)
    have c25b0 := eq_true (dt : x5_1 ≤ (l0.length : Int))
    revert H
    refine gi' (fun c26 H => ?_)
    have LMc26 := am_ c26
    clear c26
    obtain ⟨y275, hy275⟩ : ∃ y_ : List ByteArray, y_ = (y271 ++ (l0.drop (x5_1 : Int).toNat)) := ⟨_, rfl⟩
    replace H : (some y275) = some r := by first | (rw [hy275]; with_reducible exact H) | (have H := (Option.bind_some _ _).symm.trans H; first | (rw [hy275]; with_reducible exact H) | with_reducible exact H) | with_reducible exact H | (rw [hy275]; exact H) | exact H
    have Ny275 := am_ hy275
    clear hy275
    obtain rfl := Option.some.inj H
    go_wp2_with (first | ((with_reducible refine gd_ 21 ?_); refine Kd.R_lit Kd.string _ 9 ?hg (N := 21) ?hd (xs := ([] : List ByteArray)) (inner := []) (ok := fun _ => True) (okp := fun _ => True) ?hr ?hp (fun _ hk => hk) trivial (Below.refl _ _) (Nat.le_refl _) (by simp) ?_; (case hd => rfl); (case hg => rfl); (case hr => first | (go_simp; done) | (go_simp; rfl)); (case hp => exact (Reps.none _ _)); intro v265 w27 ho28 hb hg_ hnew_; clear hg_ hnew_; (first | rw [← Ny264.out] at ho28 | (simp only [Int.reduceToNat] at ho28; rw [← Ny264.out] at ho28)); have HO266 := am_ (Kd.R_lower ho28 (below_size (bh HB))); replace HB := tHb HB hb; clear hb ho28; obtain ⟨i029, hi029, _, hsz29, _⟩ := info_parts info9; obtain ⟨hcut29, hA29, hC29⟩ := print_take_of (P := Try.prog) Value.string (⟨#[]⟩ : ByteArray) 31 9 .i64 Try.underlying31 hi029 hsz29 A0 c0 l0 x5_1 (dt) (dt) HC0.out; have HR267 := am_ (Kd.C_of_reads (h1 := fun _ => rfl) (hA29 _ (Kd.reads_of_C HR0.out))); have HC267 := am_ hC29; clear hA29 hC29 hi029 hsz29) | ((with_reducible refine gate_builtin (b := .append) (xs := #[.tmp 21, .tmp 24]) rfl ?_); at_builtin; refine Kd.R_append_rows Kd.string (w0 := w) w.heap.size rfl (.tmp 21) (.tmp 24) 31 9 (.string ⟨#[]⟩) 16 rfl Try.underlying31 info9 rfl (by decide) (by omega) v265 y264 (l0.take (x5_1 : Int).toNat) _ _ _ (fun _ => True) (fun _ => False) rfl rfl ?aO ?aR (fun _ _ h => h) (fun _ h => h.elim) ?aF ?aB ?aS ?aL ?_; (case aR => first | (have h1_ := (Kd.C_below HR267.out HB.out); rw [show (l0.take (x5_1 : Int).toNat).length = x5_1.toNat from (by rw [List.length_take]; have h_ : (x5_1 : Int) ≤ (l0.length : Int) := dt; omega)] at h1_; exact h1_) | (rw [← show (l0.take (x5_1 : Int).toNat).length = x5_1.toNat from (by rw [List.length_take]; have h_ : (x5_1 : Int) ≤ (l0.length : Int) := dt; omega)]; exact gCB HR267 HB) | (exact gCB HR267 HB)); (case aB => exact (bh HB)); (case aF => exact (fun _ _ => trivial)); (case aO => exact (hR HO266)); (case aS => exact (below_size (bh HB))); (case aL => have := LMc22.out; have hlx_ := (show (l0.take (x5_1 : Int).toNat).length = x5_1.toNat from (by rw [List.length_take]; have h_ : (x5_1 : Int) ≤ (l0.length : Int) := dt; omega)); omega); intro v269 w30 ho hb hg hat; rw [← Ny268.out] at ho; replace HB := am_ hb; have HO270 := am_ (ho); clear HO266 ho hb hg hat) | ((with_reducible refine gate_builtin (b := .append) (xs := #[.tmp 26, .tmp 28]) rfl ?_); at_builtin; refine Kd.R_append Kd.string (w0 := w) w.heap.size rfl (.tmp 26) (.tmp 28) 31 9 (.string ⟨#[]⟩) 16 rfl Try.underlying31 info9 rfl (by decide) (by omega) v269 y268 a1 [.string a1] (fun _ => True) (fun _ => False) rfl rfl ?aP (fun _ hk => hk.elim) ?aF ?aO ?aB ?aS ?aL ?_; (case aP => exact rfl); (case aB => exact (bh HB)); (case aF => exact (fun _ _ => trivial)); (case aO => exact (hR HO270)); (case aS => exact (below_size (bh HB))); (case aL => have := LMc23.out; omega); intro v272 w31 ho hb hg hat; rw [← Ny271.out] at ho; replace HB := am_ hb; have HO273 := am_ (ho); clear HO270 ho hb hg hat; obtain ⟨i032, hi032, _, hsz32, _⟩ := info_parts info9; obtain ⟨A32, hcut32, hA32, hC32⟩ := print_drop_of (P := Try.prog) Value.string (⟨#[]⟩ : ByteArray) 31 9 .i64 Try.underlying31 hi032 hsz32 A0 c0 l0 x5_1 (dt) (dt) HC0.out; have HR274 := am_ (Kd.C_of_reads (h1 := fun _ => rfl) (hA32 _ (Kd.reads_of_C HR0.out))); have HC274 := am_ hC32; clear hA32 hC32 hi032 hsz32) | ((with_reducible refine gate_builtin (b := .append) (xs := #[.tmp 30, .tmp 33]) rfl ?_); at_builtin; refine Kd.R_append_rows Kd.string (w0 := w) w.heap.size rfl (.tmp 30) (.tmp 33) 31 9 (.string ⟨#[]⟩) 16 rfl Try.underlying31 info9 rfl (by decide) (by omega) v272 y271 (l0.drop (x5_1 : Int).toNat) _ _ _ (fun _ => True) (fun _ => False) rfl rfl ?aO ?aR (fun _ _ h => h) (fun _ h => h.elim) ?aF ?aB ?aS ?aL ?_; (case aR => first | (rw [← show (l0.drop (x5_1 : Int).toNat).length = (l0.length - x5_1.toNat) from List.length_drop]; exact gCB HR274 HB) | (exact gCB HR274 HB)); (case aB => exact (bh HB)); (case aF => exact (fun _ _ => trivial)); (case aO => exact (hR HO273)); (case aS => exact (below_size (bh HB))); (case aL => have := LMc26.out; have hlx_ := (show (l0.drop (x5_1 : Int).toNat).length = (l0.length - x5_1.toNat) from List.length_drop); omega); intro v276 w33 ho hb hg hat; rw [← Ny275.out] at ho; replace HB := am_ hb; have HO277 := am_ (ho); clear HO273 ho hb hg hat))
    go_ret
    exact ⟨_, fe, hR HO277, bh HB⟩
   rw [if_neg c20] at H
   exact absurd H (by simp)

def F9.f (a0_0 : Int) (a0_1 : Int) : Option (Bool) := if a0_0 ≥ 0 then (if a0_0 < 10007 then (if a0_1 ≥ 0 then (some (decide (a0_1 < 10007))) else (some false)) else (some false)) else (some false)
set_option maxHeartbeats 8000000 in
set_option maxRecDepth 100000 in
theorem F9.calls (a0_0 : Int) (a0_1 : Int) (r : Bool) (w : World) (h : F9.f a0_0 a0_1 = some r) :
  Calls Try.prog 110 #[.agg #[.int .i64 a0_0, .int .i64 a0_1]] w fun e w' => e = .returned (.bool r) ∧ Below w.heap.size w w' := by
 have hu33 := Try.underlying33
 have HB := am_ (Below.refl w.heap.size w)
 have H : (if a0_0 ≥ 0 then (if a0_0 < 10007 then (if a0_1 ≥ 0 then (some (decide (a0_1 < 10007))) else (some false)) else (some false)) else (some false)) = some r := h
 clear h
 by_cases c2 : a0_0 ≥ 0
 ·
  rw [if_pos c2] at H
  have c2b0 : decide (0 ≤ a0_0) = true := decide_eq_true c2
  clear c2
  by_cases c3 : a0_0 < 10007
  ·
   rw [if_pos c3] at H
   have c3b0 : decide (a0_0 < 10007) = true := decide_eq_true c3
   clear c3
   by_cases c4 : a0_1 ≥ 0
   ·
    rw [if_pos c4] at H
    have c4b0 : decide (0 ≤ a0_1) = true := decide_eq_true c4
    clear c4
    obtain rfl := Option.some.inj H
    go_enter Try.func110, Try.ntmps110
    go_wp2_with (first | ((with_reducible refine gd_ 1 ?_); refine be_ 1 #[.int .i64 a0_0, .int .i64 a0_1] 33 ?_; intro gb278 hg w5 hbox hb; have BK278 := am_ hbox; have GW278 := tG HB hg; have GE278 := tG HB hg; replace HB := tHb HB hb; clear hb hbox hg; obtain ⟨z6_0, z6_1, y6_0, y6_1⟩ := bx2 BK278))
    go_ret
    exact ⟨fe, bh HB⟩
   rw [if_neg c4] at H
   have c4b0 : decide (0 ≤ a0_1) = false := decide_eq_false c4
   clear c4
   obtain rfl := Option.some.inj H
   go_enter Try.func110, Try.ntmps110
   go_wp2_with (first | ((with_reducible refine gd_ 1 ?_); refine be_ 1 #[.int .i64 a0_0, .int .i64 a0_1] 33 ?_; intro gb278 hg w7 hbox hb; have BK278 := am_ hbox; have GW278 := tG HB hg; have GE278 := tG HB hg; replace HB := tHb HB hb; clear hb hbox hg; obtain ⟨z8_0, z8_1, y8_0, y8_1⟩ := bx2 BK278))
   go_ret
   exact ⟨fe, bh HB⟩
  rw [if_neg c3] at H
  have c3b0 : decide (a0_0 < 10007) = false := decide_eq_false c3
  clear c3
  obtain rfl := Option.some.inj H
  go_enter Try.func110, Try.ntmps110
  go_wp2_with (first | ((with_reducible refine gd_ 1 ?_); refine be_ 1 #[.int .i64 a0_0, .int .i64 a0_1] 33 ?_; intro gb278 hg w9 hbox hb; have BK278 := am_ hbox; have GW278 := tG HB hg; have GE278 := tG HB hg; replace HB := tHb HB hb; clear hb hbox hg; obtain ⟨z10_0, z10_1, y10_0, y10_1⟩ := bx2 BK278))
  go_ret
  exact ⟨fe, bh HB⟩
 rw [if_neg c2] at H
 have c2b0 : decide (0 ≤ a0_0) = false := decide_eq_false c2
 clear c2
 obtain rfl := Option.some.inj H
 go_enter Try.func110, Try.ntmps110
 go_wp2_with (first | ((with_reducible refine gd_ 1 ?_); refine be_ 1 #[.int .i64 a0_0, .int .i64 a0_1] 33 ?_; intro gb278 hg w11 hbox hb; have BK278 := am_ hbox; have GW278 := tG HB hg; have GE278 := tG HB hg; replace HB := tHb HB hb; clear hb hbox hg; obtain ⟨z12_0, z12_1, y12_0, y12_1⟩ := bx2 BK278))
 go_ret
 exact ⟨fe, bh HB⟩

def Gk.f (a0_0 : Int) (a0_1 : Int) (a1_0 : Int) (a1_1 : Int) : Option (Int × Int) := (F9.f a0_0 a0_1).bind fun t282 => ((F9.f a1_0 a1_1).bind fun t283 => (if t282 = true then (if t283 = true then (some (Int.tmod (wrap64 (a0_0 + a1_0)) 10007, Int.tmod (wrap64 (a0_1 + a1_1)) 10007)) else (some (0, 0))) else (some (0, 0))))
set_option maxHeartbeats 8000000 in
set_option maxRecDepth 100000 in
theorem Gk.calls (a0_0 : Int) (a0_1 : Int) (a1_0 : Int) (a1_1 : Int) (r1 : Int) (r2 : Int) (w : World) (h : Gk.f a0_0 a0_1 a1_0 a1_1 = some (r1, r2)) :
  Calls Try.prog 133 #[.agg #[.int .i64 a0_0, .int .i64 a0_1], .agg #[.int .i64 a1_0, .int .i64 a1_1]] w fun e w' => e = .returned (.agg #[.int .i64 r1, .int .i64 r2]) ∧ Below w.heap.size w w' := by
 have hu33 := Try.underlying33
 have HB := am_ (Below.refl w.heap.size w)
 have H : ((F9.f a0_0 a0_1).bind fun t282 => ((F9.f a1_0 a1_1).bind fun t283 => (if t282 = true then (if t283 = true then (some (Int.tmod (wrap64 (a0_0 + a1_0)) 10007, Int.tmod (wrap64 (a0_1 + a1_1)) 10007)) else (some (0, 0))) else (some (0, 0))))) = some (r1, r2) := h
 clear h
 replace H := Option.bind_eq_some_iff.mp H
 obtain ⟨t282, A30, H⟩ := H
 replace H : ((F9.f a1_0 a1_1).bind fun t283 => (if t282 = true then (if t283 = true then (some (Int.tmod (wrap64 (a0_0 + a1_0)) 10007, Int.tmod (wrap64 (a0_1 + a1_1)) 10007)) else (some (0, 0))) else (some (0, 0)))) = some (r1, r2) := H
 have A3 := am_ A30
 clear A30
 replace H := Option.bind_eq_some_iff.mp H
 obtain ⟨t283, A40, H⟩ := H
 replace H : (if t282 = true then (if t283 = true then (some (Int.tmod (wrap64 (a0_0 + a1_0)) 10007, Int.tmod (wrap64 (a0_1 + a1_1)) 10007)) else (some (0, 0))) else (some (0, 0))) = some (r1, r2) := H
 have A4 := am_ A40
 clear A40
 by_cases c5 : t282 = true
 ·
  subst c5
  rw [if_pos rfl] at H
  by_cases c6 : t283 = true
  ·
   subst c6
   rw [if_pos rfl] at H
   simp only [Option.some.injEq, Prod.mk.injEq] at H
   obtain ⟨rfl, rfl⟩ := H
   go_enter Try.func133, Try.ntmps133
   go_wp2_with (first | ((with_reducible refine gd_ 2 ?_); refine be_ 2 #[.int .i64 a0_0, .int .i64 a0_1] 33 ?_; intro gb279 hg w7 hbox hb; have BK279 := am_ hbox; have GW279 := tG HB hg; have GE279 := tG HB hg; replace HB := tHb HB hb; clear hb hbox hg) | ((with_reducible refine gd_ 3 ?_); refine be_ 3 #[.int .i64 a1_0, .int .i64 a1_1] 33 ?_; intro gb280 hg w8 hbox hb; have BK280 := am_ hbox; have GW280 := tG HB hg; have GE280 := tG HB hg; replace HB := tHb HB hb; have NB279_280 := tL BK279 hg; have NB280_279 := tR BK279 hg; replace BK279 := tBb BK279 hb; clear hb hbox hg) | ((with_reducible refine gd_ 4 ?_); refine be_ 4 #[.int .i64 0, .int .i64 0] 33 ?_; intro gb281 hg w9 hbox hb; have BK281 := am_ hbox; have GW281 := tG HB hg; have GE281 := tG HB hg; replace HB := tHb HB hb; have NB279_281 := tL BK279 hg; have NB281_279 := tR BK279 hg; replace BK279 := tBb BK279 hb; have NB280_281 := tL BK280 hg; have NB281_280 := tR BK280 hg; replace BK280 := tBb BK280 hb; clear hb hbox hg; have hnb10 := NB279_280.out; have hnc10 := NB280_279.out; have hnb11 := NB279_281.out; have hnc11 := NB281_279.out; obtain ⟨z12_0, z12_1, y12_0, y12_1⟩ := bx2 BK279) | ((with_reducible refine gate_callee (f := 110) rfl ?_); refine gl_ (some 8) Try.func110 #[.agg #[.int .i64 a0_0, .int .i64 a0_1]] ?_; (with_reducible refine (F9.calls a0_0 a0_1 true _ A3.out).mono ?_); rintro e w13 ⟨rfl, hb⟩; refine ⟨_, rfl, ?_⟩; replace BK279 := tBb BK279 hb; replace BK280 := tBb BK280 hb; replace BK281 := tBb BK281 hb; replace HB := tHb HB hb; (try clear hb); have hnb14 := NB280_281.out; have hnc14 := NB281_280.out; obtain ⟨z15_0, z15_1, y15_0, y15_1⟩ := bx2 BK280) | ((with_reducible refine gate_callee (f := 110) rfl ?_); refine gl_ (some 10) Try.func110 #[.agg #[.int .i64 a1_0, .int .i64 a1_1]] ?_; (with_reducible refine (F9.calls a1_0 a1_1 true _ A4.out).mono ?_); rintro e w16 ⟨rfl, hb⟩; refine ⟨_, rfl, ?_⟩; replace BK279 := tBb BK279 hb; replace BK280 := tBb BK280 hb; replace BK281 := tBb BK281 hb; replace HB := tHb HB hb; (try clear hb); obtain ⟨z17_0, z17_1, y17_0, y17_1⟩ := bx2 BK279; obtain ⟨z18_0, z18_1, y18_0, y18_1⟩ := bx2 BK280; obtain ⟨z19_0, z19_1, y19_0, y19_1⟩ := bx2 BK281))
   refine bodyPost_ret (results_cell_row rfl _ _ gb281 33 #[.int .i64 (Int.tmod (wrap64 (a0_0 + a1_0)) 10007), .int .i64 (Int.tmod (wrap64 (a0_1 + a1_1)) 10007)] (0, 0) _ rfl (gP BK281 rfl) Try.underlying33 rfl (by kernel_rfl)) rfl ?_
   exact ⟨fe, bh HB⟩
  replace c6 := Bool.eq_false_iff.mpr c6
  subst c6
  rw [if_neg (show ¬ (false = true) by decide)] at H
  simp only [Option.some.injEq, Prod.mk.injEq] at H
  obtain ⟨rfl, rfl⟩ := H
  go_enter Try.func133, Try.ntmps133
  go_wp2_with (first | ((with_reducible refine gd_ 2 ?_); refine be_ 2 #[.int .i64 a0_0, .int .i64 a0_1] 33 ?_; intro gb279 hg w20 hbox hb; have BK279 := am_ hbox; have GW279 := tG HB hg; have GE279 := tG HB hg; replace HB := tHb HB hb; clear hb hbox hg) | ((with_reducible refine gd_ 3 ?_); refine be_ 3 #[.int .i64 a1_0, .int .i64 a1_1] 33 ?_; intro gb280 hg w21 hbox hb; have BK280 := am_ hbox; have GW280 := tG HB hg; have GE280 := tG HB hg; replace HB := tHb HB hb; have NB279_280 := tL BK279 hg; have NB280_279 := tR BK279 hg; replace BK279 := tBb BK279 hb; clear hb hbox hg) | ((with_reducible refine gd_ 4 ?_); refine be_ 4 #[.int .i64 0, .int .i64 0] 33 ?_; intro gb281 hg w22 hbox hb; have BK281 := am_ hbox; have GW281 := tG HB hg; have GE281 := tG HB hg; replace HB := tHb HB hb; have NB279_281 := tL BK279 hg; have NB281_279 := tR BK279 hg; replace BK279 := tBb BK279 hb; have NB280_281 := tL BK280 hg; have NB281_280 := tR BK280 hg; replace BK280 := tBb BK280 hb; clear hb hbox hg; have hnb23 := NB279_280.out; have hnc23 := NB280_279.out; have hnb24 := NB279_281.out; have hnc24 := NB281_279.out; obtain ⟨z25_0, z25_1, y25_0, y25_1⟩ := bx2 BK279) | ((with_reducible refine gate_callee (f := 110) rfl ?_); refine gl_ (some 8) Try.func110 #[.agg #[.int .i64 a0_0, .int .i64 a0_1]] ?_; (with_reducible refine (F9.calls a0_0 a0_1 true _ A3.out).mono ?_); rintro e w26 ⟨rfl, hb⟩; refine ⟨_, rfl, ?_⟩; replace BK279 := tBb BK279 hb; replace BK280 := tBb BK280 hb; replace BK281 := tBb BK281 hb; replace HB := tHb HB hb; (try clear hb); have hnb27 := NB280_281.out; have hnc27 := NB281_280.out; obtain ⟨z28_0, z28_1, y28_0, y28_1⟩ := bx2 BK280) | ((with_reducible refine gate_callee (f := 110) rfl ?_); refine gl_ (some 10) Try.func110 #[.agg #[.int .i64 a1_0, .int .i64 a1_1]] ?_; (with_reducible refine (F9.calls a1_0 a1_1 false _ A4.out).mono ?_); rintro e w29 ⟨rfl, hb⟩; refine ⟨_, rfl, ?_⟩; replace BK279 := tBb BK279 hb; replace BK280 := tBb BK280 hb; replace BK281 := tBb BK281 hb; replace HB := tHb HB hb; (try clear hb); obtain ⟨z30_0, z30_1, y30_0, y30_1⟩ := bx2 BK281))
  refine bodyPost_ret (results_cell_row rfl _ _ gb281 33 #[.int .i64 0, .int .i64 0] (0, 0) _ rfl (gP BK281 rfl) Try.underlying33 rfl (by kernel_rfl)) rfl ?_
  exact ⟨fe, bh HB⟩
 replace c5 := Bool.eq_false_iff.mpr c5
 subst c5
 rw [if_neg (show ¬ (false = true) by decide)] at H
 simp only [Option.some.injEq, Prod.mk.injEq] at H
 obtain ⟨rfl, rfl⟩ := H
 go_enter Try.func133, Try.ntmps133
 go_wp2_with (first | ((with_reducible refine gd_ 2 ?_); refine be_ 2 #[.int .i64 a0_0, .int .i64 a0_1] 33 ?_; intro gb279 hg w31 hbox hb; have BK279 := am_ hbox; have GW279 := tG HB hg; have GE279 := tG HB hg; replace HB := tHb HB hb; clear hb hbox hg) | ((with_reducible refine gd_ 3 ?_); refine be_ 3 #[.int .i64 a1_0, .int .i64 a1_1] 33 ?_; intro gb280 hg w32 hbox hb; have BK280 := am_ hbox; have GW280 := tG HB hg; have GE280 := tG HB hg; replace HB := tHb HB hb; have NB279_280 := tL BK279 hg; have NB280_279 := tR BK279 hg; replace BK279 := tBb BK279 hb; clear hb hbox hg) | ((with_reducible refine gd_ 4 ?_); refine be_ 4 #[.int .i64 0, .int .i64 0] 33 ?_; intro gb281 hg w33 hbox hb; have BK281 := am_ hbox; have GW281 := tG HB hg; have GE281 := tG HB hg; replace HB := tHb HB hb; have NB279_281 := tL BK279 hg; have NB281_279 := tR BK279 hg; replace BK279 := tBb BK279 hb; have NB280_281 := tL BK280 hg; have NB281_280 := tR BK280 hg; replace BK280 := tBb BK280 hb; clear hb hbox hg; have hnb34 := NB279_280.out; have hnc34 := NB280_279.out; have hnb35 := NB279_281.out; have hnc35 := NB281_279.out; obtain ⟨z36_0, z36_1, y36_0, y36_1⟩ := bx2 BK279) | ((with_reducible refine gate_callee (f := 110) rfl ?_); refine gl_ (some 8) Try.func110 #[.agg #[.int .i64 a0_0, .int .i64 a0_1]] ?_; (with_reducible refine (F9.calls a0_0 a0_1 false _ A3.out).mono ?_); rintro e w37 ⟨rfl, hb⟩; refine ⟨_, rfl, ?_⟩; replace BK279 := tBb BK279 hb; replace BK280 := tBb BK280 hb; replace BK281 := tBb BK281 hb; replace HB := tHb HB hb; (try clear hb); have hnb38 := NB280_281.out; have hnc38 := NB281_280.out; obtain ⟨z39_0, z39_1, y39_0, y39_1⟩ := bx2 BK280) | ((with_reducible refine gate_callee (f := 110) rfl ?_); refine gl_ (some 10) Try.func110 #[.agg #[.int .i64 a1_0, .int .i64 a1_1]] ?_; (with_reducible refine (F9.calls a1_0 a1_1 t283 _ A4.out).mono ?_); rintro e w40 ⟨rfl, hb⟩; refine ⟨_, rfl, ?_⟩; replace BK279 := tBb BK279 hb; replace BK280 := tBb BK280 hb; replace BK281 := tBb BK281 hb; replace HB := tHb HB hb; (try clear hb); obtain ⟨z41_0, z41_1, y41_0, y41_1⟩ := bx2 BK281))
 refine bodyPost_ret (results_cell_row rfl _ _ gb281 33 #[.int .i64 0, .int .i64 0] (0, 0) _ rfl (gP BK281 rfl) Try.underlying33 rfl (by kernel_rfl)) rfl ?_
 exact ⟨fe, bh HB⟩

def Gp.f (a0_0 : Int) (a0_1 : Int) (a1_0 : Int) (a1_1 : Int) : Option (Int × Int) := (F9.f a0_0 a0_1).bind fun t287 => ((F9.f a1_0 a1_1).bind fun t288 => (if t287 = true then (if t288 = true then (some (Int.tmod (wrap64 ((wrap64 ((wrap64 (a0_0 * a1_0)) + 100140049)) - (wrap64 (a0_1 * a1_1)))) 10007, Int.tmod (wrap64 ((wrap64 (a0_0 * a1_1)) + (wrap64 (a0_1 * a1_0)))) 10007)) else (some (0, 0))) else (some (0, 0))))
set_option maxHeartbeats 8000000 in
set_option maxRecDepth 100000 in
theorem Gp.calls (a0_0 : Int) (a0_1 : Int) (a1_0 : Int) (a1_1 : Int) (r1 : Int) (r2 : Int) (w : World) (h : Gp.f a0_0 a0_1 a1_0 a1_1 = some (r1, r2)) :
  Calls Try.prog 134 #[.agg #[.int .i64 a0_0, .int .i64 a0_1], .agg #[.int .i64 a1_0, .int .i64 a1_1]] w fun e w' => e = .returned (.agg #[.int .i64 r1, .int .i64 r2]) ∧ Below w.heap.size w w' := by
 have hu33 := Try.underlying33
 have HB := am_ (Below.refl w.heap.size w)
 have H : ((F9.f a0_0 a0_1).bind fun t287 => ((F9.f a1_0 a1_1).bind fun t288 => (if t287 = true then (if t288 = true then (some (Int.tmod (wrap64 ((wrap64 ((wrap64 (a0_0 * a1_0)) + 100140049)) - (wrap64 (a0_1 * a1_1)))) 10007, Int.tmod (wrap64 ((wrap64 (a0_0 * a1_1)) + (wrap64 (a0_1 * a1_0)))) 10007)) else (some (0, 0))) else (some (0, 0))))) = some (r1, r2) := h
 clear h
 replace H := Option.bind_eq_some_iff.mp H
 obtain ⟨t287, A30, H⟩ := H
 replace H : ((F9.f a1_0 a1_1).bind fun t288 => (if t287 = true then (if t288 = true then (some (Int.tmod (wrap64 ((wrap64 ((wrap64 (a0_0 * a1_0)) + 100140049)) - (wrap64 (a0_1 * a1_1)))) 10007, Int.tmod (wrap64 ((wrap64 (a0_0 * a1_1)) + (wrap64 (a0_1 * a1_0)))) 10007)) else (some (0, 0))) else (some (0, 0)))) = some (r1, r2) := H
 have A3 := am_ A30
 clear A30
 replace H := Option.bind_eq_some_iff.mp H
 obtain ⟨t288, A40, H⟩ := H
 replace H : (if t287 = true then (if t288 = true then (some (Int.tmod (wrap64 ((wrap64 ((wrap64 (a0_0 * a1_0)) + 100140049)) - (wrap64 (a0_1 * a1_1)))) 10007, Int.tmod (wrap64 ((wrap64 (a0_0 * a1_1)) + (wrap64 (a0_1 * a1_0)))) 10007)) else (some (0, 0))) else (some (0, 0))) = some (r1, r2) := H
 have A4 := am_ A40
 clear A40
 by_cases c5 : t287 = true
 ·
  subst c5
  rw [if_pos rfl] at H
  by_cases c6 : t288 = true
  ·
   subst c6
   rw [if_pos rfl] at H
   simp only [Option.some.injEq, Prod.mk.injEq] at H
   obtain ⟨rfl, rfl⟩ := H
   go_enter Try.func134, Try.ntmps134
   go_wp2_with (first | ((with_reducible refine gd_ 2 ?_); refine be_ 2 #[.int .i64 a0_0, .int .i64 a0_1] 33 ?_; intro gb284 hg w7 hbox hb; have BK284 := am_ hbox; have GW284 := tG HB hg; have GE284 := tG HB hg; replace HB := tHb HB hb; clear hb hbox hg) | ((with_reducible refine gd_ 3 ?_); refine be_ 3 #[.int .i64 a1_0, .int .i64 a1_1] 33 ?_; intro gb285 hg w8 hbox hb; have BK285 := am_ hbox; have GW285 := tG HB hg; have GE285 := tG HB hg; replace HB := tHb HB hb; have NB284_285 := tL BK284 hg; have NB285_284 := tR BK284 hg; replace BK284 := tBb BK284 hb; clear hb hbox hg) | ((with_reducible refine gd_ 4 ?_); refine be_ 4 #[.int .i64 0, .int .i64 0] 33 ?_; intro gb286 hg w9 hbox hb; have BK286 := am_ hbox; have GW286 := tG HB hg; have GE286 := tG HB hg; replace HB := tHb HB hb; have NB284_286 := tL BK284 hg; have NB286_284 := tR BK284 hg; replace BK284 := tBb BK284 hb; have NB285_286 := tL BK285 hg; have NB286_285 := tR BK285 hg; replace BK285 := tBb BK285 hb; clear hb hbox hg; have hnb10 := NB284_285.out; have hnc10 := NB285_284.out; have hnb11 := NB284_286.out; have hnc11 := NB286_284.out; obtain ⟨z12_0, z12_1, y12_0, y12_1⟩ := bx2 BK284) | ((with_reducible refine gate_callee (f := 110) rfl ?_); refine gl_ (some 8) Try.func110 #[.agg #[.int .i64 a0_0, .int .i64 a0_1]] ?_; (with_reducible refine (F9.calls a0_0 a0_1 true _ A3.out).mono ?_); rintro e w13 ⟨rfl, hb⟩; refine ⟨_, rfl, ?_⟩; replace BK284 := tBb BK284 hb; replace BK285 := tBb BK285 hb; replace BK286 := tBb BK286 hb; replace HB := tHb HB hb; (try clear hb); have hnb14 := NB285_286.out; have hnc14 := NB286_285.out; obtain ⟨z15_0, z15_1, y15_0, y15_1⟩ := bx2 BK285) | ((with_reducible refine gate_callee (f := 110) rfl ?_); refine gl_ (some 10) Try.func110 #[.agg #[.int .i64 a1_0, .int .i64 a1_1]] ?_; (with_reducible refine (F9.calls a1_0 a1_1 true _ A4.out).mono ?_); rintro e w16 ⟨rfl, hb⟩; refine ⟨_, rfl, ?_⟩; replace BK284 := tBb BK284 hb; replace BK285 := tBb BK285 hb; replace BK286 := tBb BK286 hb; replace HB := tHb HB hb; (try clear hb); obtain ⟨z17_0, z17_1, y17_0, y17_1⟩ := bx2 BK284; obtain ⟨z18_0, z18_1, y18_0, y18_1⟩ := bx2 BK285; obtain ⟨z19_0, z19_1, y19_0, y19_1⟩ := bx2 BK286))
   refine bodyPost_ret (results_cell_row rfl _ _ gb286 33 #[.int .i64 (Int.tmod (wrap64 ((wrap64 ((wrap64 (a0_0 * a1_0)) + 100140049)) - (wrap64 (a0_1 * a1_1)))) 10007), .int .i64 (Int.tmod (wrap64 ((wrap64 (a0_0 * a1_1)) + (wrap64 (a0_1 * a1_0)))) 10007)] (0, 0) _ rfl (gP BK286 rfl) Try.underlying33 rfl (by kernel_rfl)) rfl ?_
   exact ⟨fe, bh HB⟩
  replace c6 := Bool.eq_false_iff.mpr c6
  subst c6
  rw [if_neg (show ¬ (false = true) by decide)] at H
  simp only [Option.some.injEq, Prod.mk.injEq] at H
  obtain ⟨rfl, rfl⟩ := H
  go_enter Try.func134, Try.ntmps134
  go_wp2_with (first | ((with_reducible refine gd_ 2 ?_); refine be_ 2 #[.int .i64 a0_0, .int .i64 a0_1] 33 ?_; intro gb284 hg w20 hbox hb; have BK284 := am_ hbox; have GW284 := tG HB hg; have GE284 := tG HB hg; replace HB := tHb HB hb; clear hb hbox hg) | ((with_reducible refine gd_ 3 ?_); refine be_ 3 #[.int .i64 a1_0, .int .i64 a1_1] 33 ?_; intro gb285 hg w21 hbox hb; have BK285 := am_ hbox; have GW285 := tG HB hg; have GE285 := tG HB hg; replace HB := tHb HB hb; have NB284_285 := tL BK284 hg; have NB285_284 := tR BK284 hg; replace BK284 := tBb BK284 hb; clear hb hbox hg) | ((with_reducible refine gd_ 4 ?_); refine be_ 4 #[.int .i64 0, .int .i64 0] 33 ?_; intro gb286 hg w22 hbox hb; have BK286 := am_ hbox; have GW286 := tG HB hg; have GE286 := tG HB hg; replace HB := tHb HB hb; have NB284_286 := tL BK284 hg; have NB286_284 := tR BK284 hg; replace BK284 := tBb BK284 hb; have NB285_286 := tL BK285 hg; have NB286_285 := tR BK285 hg; replace BK285 := tBb BK285 hb; clear hb hbox hg; have hnb23 := NB284_285.out; have hnc23 := NB285_284.out; have hnb24 := NB284_286.out; have hnc24 := NB286_284.out; obtain ⟨z25_0, z25_1, y25_0, y25_1⟩ := bx2 BK284) | ((with_reducible refine gate_callee (f := 110) rfl ?_); refine gl_ (some 8) Try.func110 #[.agg #[.int .i64 a0_0, .int .i64 a0_1]] ?_; (with_reducible refine (F9.calls a0_0 a0_1 true _ A3.out).mono ?_); rintro e w26 ⟨rfl, hb⟩; refine ⟨_, rfl, ?_⟩; replace BK284 := tBb BK284 hb; replace BK285 := tBb BK285 hb; replace BK286 := tBb BK286 hb; replace HB := tHb HB hb; (try clear hb); have hnb27 := NB285_286.out; have hnc27 := NB286_285.out; obtain ⟨z28_0, z28_1, y28_0, y28_1⟩ := bx2 BK285) | ((with_reducible refine gate_callee (f := 110) rfl ?_); refine gl_ (some 10) Try.func110 #[.agg #[.int .i64 a1_0, .int .i64 a1_1]] ?_; (with_reducible refine (F9.calls a1_0 a1_1 false _ A4.out).mono ?_); rintro e w29 ⟨rfl, hb⟩; refine ⟨_, rfl, ?_⟩; replace BK284 := tBb BK284 hb; replace BK285 := tBb BK285 hb; replace BK286 := tBb BK286 hb; replace HB := tHb HB hb; (try clear hb); obtain ⟨z30_0, z30_1, y30_0, y30_1⟩ := bx2 BK286))
  refine bodyPost_ret (results_cell_row rfl _ _ gb286 33 #[.int .i64 0, .int .i64 0] (0, 0) _ rfl (gP BK286 rfl) Try.underlying33 rfl (by kernel_rfl)) rfl ?_
  exact ⟨fe, bh HB⟩
 replace c5 := Bool.eq_false_iff.mpr c5
 subst c5
 rw [if_neg (show ¬ (false = true) by decide)] at H
 simp only [Option.some.injEq, Prod.mk.injEq] at H
 obtain ⟨rfl, rfl⟩ := H
 go_enter Try.func134, Try.ntmps134
 go_wp2_with (first | ((with_reducible refine gd_ 2 ?_); refine be_ 2 #[.int .i64 a0_0, .int .i64 a0_1] 33 ?_; intro gb284 hg w31 hbox hb; have BK284 := am_ hbox; have GW284 := tG HB hg; have GE284 := tG HB hg; replace HB := tHb HB hb; clear hb hbox hg) | ((with_reducible refine gd_ 3 ?_); refine be_ 3 #[.int .i64 a1_0, .int .i64 a1_1] 33 ?_; intro gb285 hg w32 hbox hb; have BK285 := am_ hbox; have GW285 := tG HB hg; have GE285 := tG HB hg; replace HB := tHb HB hb; have NB284_285 := tL BK284 hg; have NB285_284 := tR BK284 hg; replace BK284 := tBb BK284 hb; clear hb hbox hg) | ((with_reducible refine gd_ 4 ?_); refine be_ 4 #[.int .i64 0, .int .i64 0] 33 ?_; intro gb286 hg w33 hbox hb; have BK286 := am_ hbox; have GW286 := tG HB hg; have GE286 := tG HB hg; replace HB := tHb HB hb; have NB284_286 := tL BK284 hg; have NB286_284 := tR BK284 hg; replace BK284 := tBb BK284 hb; have NB285_286 := tL BK285 hg; have NB286_285 := tR BK285 hg; replace BK285 := tBb BK285 hb; clear hb hbox hg; have hnb34 := NB284_285.out; have hnc34 := NB285_284.out; have hnb35 := NB284_286.out; have hnc35 := NB286_284.out; obtain ⟨z36_0, z36_1, y36_0, y36_1⟩ := bx2 BK284) | ((with_reducible refine gate_callee (f := 110) rfl ?_); refine gl_ (some 8) Try.func110 #[.agg #[.int .i64 a0_0, .int .i64 a0_1]] ?_; (with_reducible refine (F9.calls a0_0 a0_1 false _ A3.out).mono ?_); rintro e w37 ⟨rfl, hb⟩; refine ⟨_, rfl, ?_⟩; replace BK284 := tBb BK284 hb; replace BK285 := tBb BK285 hb; replace BK286 := tBb BK286 hb; replace HB := tHb HB hb; (try clear hb); have hnb38 := NB285_286.out; have hnc38 := NB286_285.out; obtain ⟨z39_0, z39_1, y39_0, y39_1⟩ := bx2 BK285) | ((with_reducible refine gate_callee (f := 110) rfl ?_); refine gl_ (some 10) Try.func110 #[.agg #[.int .i64 a1_0, .int .i64 a1_1]] ?_; (with_reducible refine (F9.calls a1_0 a1_1 t288 _ A4.out).mono ?_); rintro e w40 ⟨rfl, hb⟩; refine ⟨_, rfl, ?_⟩; replace BK284 := tBb BK284 hb; replace BK285 := tBb BK285 hb; replace BK286 := tBb BK286 hb; replace HB := tHb HB hb; (try clear hb); obtain ⟨z41_0, z41_1, y41_0, y41_1⟩ := bx2 BK286))
 refine bodyPost_ret (results_cell_row rfl _ _ gb286 33 #[.int .i64 0, .int .i64 0] (0, 0) _ rfl (gP BK286 rfl) Try.underlying33 rfl (by kernel_rfl)) rfl ?_
 exact ⟨fe, bh HB⟩

def Ff.l0 : Nat → List (S33) → Int → Int → Int → Int → Int → Option (Int × Int)
 | 0, _, _, _, _, _, _ => none
 | k + 1, x0, x6, x290000, x290001, x292000, x292001 => if x6 ≥ 0 then ((Gp.f x292000 x292001 x290000 x290001).bind fun bt292 => (if 0 ≤ x6 then (if x6 < (x0.length : Int) then ((Gk.f bt292.1 bt292.2 ((rd_T33 x0 x6).f0) ((rd_T33 x0 x6).f1)).bind fun bt295 => (Ff.l0 k x0 (wrap64 (x6 - 1)) x290000 x290001 bt295.1 bt295.2)) else (none)) else (none))) else (some (x292000, x292001))
def Ff.f (k : Nat) (l0 : List (S33)) (a1_0 : Int) (a1_1 : Int) : Option (Int × Int) := Ff.l0 k l0 (wrap64 ((l0.length : Int) - 1)) a1_0 a1_1 0 0
theorem Ff.mono_l : ∀ k, (∀ y0 y1 y2 y3 y4 y5, LeO (Ff.l0 k y0 y1 y2 y3 y4 y5) (Ff.l0 (k + 1) y0 y1 y2 y3 y4 y5))
 | 0 => fun _ _ _ _ _ _ r h => by simp [Ff.l0] at h
 | k + 1 => by
  have ih0 := Ff.mono_l k
  ·
   intro y0 y1 y2 y3 y4 y5
   unfold Ff.l0
   repeat' first | (with_reducible first | exact ih0 _ _ _ _ _ _ | exact LeO.refl _ | exact LeO.none _ | refine LeO.ite ?_ ?_ | refine LeO.bind ?_ (fun _ => ?_)) | exact ih0 _ _ _ _ _ _ | refine LeO.ite ?_ ?_ | refine LeO.bind ?_ (fun _ => ?_)
theorem Ff.mono : ∀ a0 a1 a2 k, LeO (Ff.f k a0 a1 a2) (Ff.f (k + 1) a0 a1 a2) := by
 intro a0 a1 a2 k
 have ih0 := Ff.mono_l k
 unfold Ff.f
 repeat' first | (with_reducible first | exact ih0 _ _ _ _ _ _ | exact LeO.refl _ | exact LeO.none _ | refine LeO.ite ?_ ?_ | refine LeO.bind ?_ (fun _ => ?_)) | exact ih0 _ _ _ _ _ _ | refine LeO.ite ?_ ?_ | refine LeO.bind ?_ (fun _ => ?_)
def Ff.T5 : Bool × List (List Nat × List Nat) := (true, [([], []), ([], []), ([0, 1], [0, 1]), ([], []), ([], []), ([3, 4], [3, 4]), ([5], [5]), ([2, 6, 2], [2, 6]), ([7, 7, 0, 1, 2, 3, 4, 5, 6, 7], [7])])
def Ff.B5 : List Nat := [0, 0, 3, 0, 0, 24, 56, 127, 255]
theorem Ff.tab5 : rtab .any (opsOf Try.f111 5) = Ff.T5 := by kernel_rfl
theorem Ff.bits5 : waitsOk Ff.T5.2 Ff.B5 = true := by kernel_rfl
set_option maxHeartbeats 8000000 in
set_option maxRecDepth 100000 in
theorem Ff.calls (k : Nat) (A0 : Option Addr) (c0 : Nat) (l0 : List (S33)) (a1_0 : Int) (a1_1 : Int) (r1 : Int) (r2 : Int) (w : World) (hr0 : Kd.C k33 w A0 l0.length l0) (hc0 : l0.length ≤ c0) (h : Ff.f k l0 a1_0 a1_1 = some (r1, r2)) :
  Calls Try.prog 111 #[.slice A0 l0.length c0, .agg #[.int .i64 a1_0, .int .i64 a1_1]] w fun e w' => e = .returned (.agg #[.int .i64 r1, .int .i64 r2]) ∧ Below w.heap.size w w' := by
 have hu33 := Try.underlying33
 have HR0 := am_ hr0
 have HC0 := am_ hc0
 clear hr0 hc0
 have HB := am_ (Below.refl w.heap.size w)
 have H : (Ff.l0 k l0 (wrap64 ((l0.length : Int) - 1)) a1_0 a1_1 0 0) = some (r1, r2) := h
 clear h
 have H' := am_ H
 clear H
 go_enter Try.func111, Try.ntmps111
 go_wp2_with (first | ((with_reducible refine gd_ 3 ?_); refine be_ 3 #[.int .i64 a1_0, .int .i64 a1_1] 33 ?_; intro gb289 hg w3 hbox hb; have BK289 := am_ hbox; have GW289 := tG HB hg; have GE289 := tG HB hg; replace HB := tHb HB hb; clear hb hbox hg) | ((with_reducible refine gd_ 4 ?_); refine be_ 4 #[.int .i64 0, .int .i64 0] 33 ?_; intro gb290 hg w4 hbox hb; have BK290 := am_ hbox; have GW290 := tG HB hg; have GE290 := tG HB hg; replace HB := tHb HB hb; have NB289_290 := tL BK289 hg; have NB290_289 := tR BK289 hg; replace BK289 := tBb BK289 hb; clear hb hbox hg) | ((with_reducible refine gd_ 5 ?_); refine be_ 5 #[.int .i64 0, .int .i64 0] 33 ?_; intro gb291 hg w5 hbox hb; have BK291 := am_ hbox; have GW291 := tG HB hg; have GE291 := tG HB hg; replace HB := tHb HB hb; have NB289_291 := tL BK289 hg; have NB291_289 := tR BK289 hg; replace BK289 := tBb BK289 hb; have NB290_291 := tL BK290 hg; have NB291_290 := tR BK290 hg; replace BK290 := tBb BK290 hb; clear hb hbox hg; have hnb6 := NB291_289.out; have hnc6 := NB289_291.out; have hnb7 := NB291_290.out; have hnc7 := NB290_291.out; obtain ⟨z8_0, z8_1, y8_0, y8_1⟩ := bx2 BK291))
 go_loopg [6] k (fun kq v6 w' => ∃ (x6_1 : Int) (x292000_1 : Int) (x292001_1 : Int), v6 = .int .i64 x6_1 ∧ Asc (Ff.l0 kq l0 x6_1 a1_0 a1_1 x292000_1 x292001_1 = some (r1, r2)) ∧ Asc (kq ≤ k) ∧ Asc (w'.heap[gb289]? = some (.cells #[.int .i64 a1_0, .int .i64 a1_1] 33 (0, 0))) ∧ Asc (w'.heap[gb290]? = some (.cells #[.int .i64 0, .int .i64 0] 33 (0, 0))) ∧ Asc (w'.heap[gb291]? = some (.cells #[.int .i64 x292000_1, .int .i64 x292001_1] 33 (0, 0))) ∧ Asc (Below w.heap.size w w'))
 case atStart => exact ⟨(wrap64 ((l0.length : Int) - 1)), (0), (0), fr, H', ⟨Nat.le_refl _⟩, ⟨gB BK289⟩, ⟨gB BK290⟩, ⟨gP BK291 rfl⟩, ⟨bh HB⟩⟩
 case round =>
  clear H'
  try clear z8_0 z8_1 y8_0 y8_1
  obtain ⟨x6_1, x292000_1, x292001_1, rfl, HA, HK1, BK289, BK290, BK291, HB⟩ := hrel
  cases gk with
  | zero => exact absurd HA.out (by simp [Ff.l0])
  | succ k1 =>
   have H := HA.out
   clear HA
   simp only [Ff.l0] at H
   by_cases c9 : x6_1 ≥ 0
   ·
    rw [if_pos c9] at H
    have c9b0 : decide (0 ≤ x6_1) = true := decide_eq_true c9
    clear c9
    replace H := Option.bind_eq_some_iff.mp H
    obtain ⟨⟨t292, t293⟩, A100, H⟩ := H
    replace H : (if 0 ≤ x6_1 then (if x6_1 < (l0.length : Int) then ((Gk.f t292 t293 ((rd_T33 l0 x6_1).f0) ((rd_T33 l0 x6_1).f1)).bind fun bt295 => (Ff.l0 k1 l0 (wrap64 (x6_1 - 1)) a1_0 a1_1 bt295.1 bt295.2)) else (none)) else (none)) = some (r1, r2) := H
    have A10 := am_ A100
    clear A100
    revert H
    refine gi (fun c11b0 H => ?_)
    revert H
    refine gi (fun c12b0 H => ?_)
    replace H := Option.bind_eq_some_iff.mp H
    obtain ⟨⟨t295, t296⟩, A130, H⟩ := H
    replace H : (Ff.l0 k1 l0 (wrap64 (x6_1 - 1)) a1_0 a1_1 t295 t296) = some (r1, r2) := H
    have A13 := am_ A130
    clear A130
    have H' := am_ H
    clear H
    try go_wp2
    replace BK289 := am_ (blk_drew BK289.out)
    replace BK290 := am_ (blk_drew BK290.out)
    replace BK291 := am_ (blk_drew BK291.out)
    replace HB := am_ (below_drew1 HB.out)
    have p294 : 0 ≤ (x6_1 : Int) := dt
    have q294 : x6_1 < (l0.length : Int) := dt
    obtain ⟨ad294, e294, hx294_0, hx294_1⟩ := at_T33 HR0.out x6_1 p294 q294
    have hw294_1 := hx294_1
    have hw294_0 := hx294_0
    cases e294
    replace hx294_0 := ce HB hx294_0
    replace hx294_1 := ce HB hx294_1
    replace p294 := eq_true p294
    replace q294 := eq_true q294
    refine start_ (n := 9) (S := fun w' => w'.cell? ⟨gb291, 0, none⟩ = some (.int .i64 x292000_1) ∧ w'.cell? ⟨gb291, 1, none⟩ = some (.int .i64 x292001_1) ∧ w'.cell? ⟨gb289, 0, none⟩ = some (.int .i64 a1_0) ∧ w'.cell? ⟨gb289, 1, none⟩ = some (.int .i64 a1_1) ∧ w'.cell? (ad294.add ((x6_1).toNat * 2)) = some (.int .i64 ((rd_T33 l0 x6_1).f0)) ∧ w'.cell? ⟨(ad294.add ((x6_1).toNat * 2)).block, (ad294.add ((x6_1).toNat * 2)).off + 1, none⟩ = some (.int .i64 ((rd_T33 l0 x6_1).f1))) (ds := [8]) #[false, false, false, false, false, false, false, false, false] (by kernel_rfl) rfl rfl ⟨(blk_cell BK291.out 0).trans rfl, (blk_cell BK291.out 1).trans rfl, (blk_cell BK289.out 0).trans rfl, (blk_cell BK289.out 1).trans rfl, (ce HB (by first | exact hw294_0)), (ce HB (by first | exact hw294_1))⟩ (fun hHeld => ?_); refine with_tabW Ff.tab5 Ff.bits5 (fun HT_ HW_ => ?_)
    generalize wr.drew = w14 at BK289 BK290 BK291 HB hx294_0 hx294_1 hHeld ⊢
    refine pu_ 3 (some 18) 8 HT_ (h := ?_)
    refine pu_ 4 (some 19) 24 HT_ (h := ?_)
    refine pu_ 5 (some 20) 56 HT_ (h := ?_)
    refine tk_ 0 (some 15) 57 HT_ HW_ hHeld (h := ?_)
    refine tk_ 1 (some 16) 59 HT_ HW_ hHeld (h := ?_)
    refine tk_ 6 (some 21) 123 HT_ HW_ hHeld (h := ?_)
    refine one_ (i := 2) (N := some 17) #[true, true, true, true, true, true, true, false, false] rfl rfl (one_of HT_.out (by kernel_rfl)) (by decide) (fun K hK => ?_)
    refine goes_ Try.func134 (by kernel_rfl) rfl #[.agg #[.int .i64 x292000_1, .int .i64 x292001_1], .agg #[.int .i64 a1_0, .int .i64 a1_1]] (by rfl) rfl rfl (by (try simp only [List.map_toArray, List.map_cons, List.map_nil]); first | done | rfl | (simp only [List.length_drop, List.length_take]; rfl)) ?_
    with_reducible refine (Gp.calls x292000_1 x292001_1 a1_0 a1_1 t292 t293 _ A10.out).mono ?_
    rintro e w15 ⟨rfl, hb⟩
    refine ⟨_, rfl, ?_⟩
    replace BK289 := tBb BK289 hb
    replace BK290 := tBb BK290 hb
    replace BK291 := tBb BK291 hb
    replace HB := tHb HB hb
    (try clear hb)
    (try clear hb2)
    (try clear hk)
    (try clear hi)
    refine hK.out _ _ ⟨(blk_cell BK291.out 0).trans rfl, (blk_cell BK291.out 1).trans rfl, (blk_cell BK289.out 0).trans rfl, (blk_cell BK289.out 1).trans rfl, (ce HB (by first | exact hw294_0)), (ce HB (by first | exact hw294_1))⟩ (fun hHeld => ?_)
    clear hK K
    refine norm_ (a' := ?_) ?_ ?_
    rotate_left
    ·
     show Act.put _ (some 17) _ = _
     simp only [Act.put, List.setIfInBounds_toArray, List.set_cons_zero, List.set_cons_succ, i64_w, i32_w]
     rfl
    refine one_ (i := 7) (N := some 22) #[true, true, true, true, true, true, true, true, false] rfl rfl (one_of HT_.out (by kernel_rfl)) (by decide) (fun K hK => ?_)
    refine goes_ Try.func133 (by kernel_rfl) rfl #[.agg #[.int .i64 t292, .int .i64 t293], .agg #[.int .i64 ((rd_T33 l0 x6_1).f0), .int .i64 ((rd_T33 l0 x6_1).f1)]] (by rfl) rfl rfl (by (try simp only [List.map_toArray, List.map_cons, List.map_nil]); first | done | rfl | (simp only [List.length_drop, List.length_take]; rfl)) ?_
    with_reducible refine (Gk.calls t292 t293 ((rd_T33 l0 x6_1).f0) ((rd_T33 l0 x6_1).f1) t295 t296 _ A13.out).mono ?_
    rintro e w16 ⟨rfl, hb⟩
    refine ⟨_, rfl, ?_⟩
    replace BK289 := tBb BK289 hb
    replace BK290 := tBb BK290 hb
    replace BK291 := tBb BK291 hb
    replace HB := tHb HB hb
    (try clear hb)
    (try clear hb2)
    (try clear hk)
    (try clear hi)
    refine hK.out _ _ ⟨(blk_cell BK291.out 0).trans rfl, (blk_cell BK291.out 1).trans rfl, (blk_cell BK289.out 0).trans rfl, (blk_cell BK289.out 1).trans rfl, (ce HB (by first | exact hw294_0)), (ce HB (by first | exact hw294_1))⟩ (fun hHeld => ?_)
    clear hK K
    refine norm_ (a' := ?_) ?_ ?_
    rotate_left
    ·
     show Act.put _ (some 22) _ = _
     simp only [Act.put, List.setIfInBounds_toArray, List.set_cons_zero, List.set_cons_succ, i64_w, i32_w]
     rfl
    refine last_ (i := 8) (N := none) #[true, true, true, true, true, true, true, true, true] rfl rfl (one_of HT_.out (by kernel_rfl)) (by decide) (fun K hK => ?_)
    have hs17 : w16.cell? ⟨gb291, 0, none⟩ = some (.int .i64 x292000_1) := (blk_cell BK291.out 0).trans rfl
    have hfs17 := blk_frozen BK291.out 0
    have hns17_0 := NB289_291.out
    have hns17_1 := NB290_291.out
    have hms17_0 := NB291_289.out
    have hms17_1 := NB291_290.out
    have hs18 : w16.cell? ⟨gb291, 1, none⟩ = some (.int .i64 x292001_1) := (blk_cell BK291.out 1).trans rfl
    have hfs18 := blk_frozen BK291.out 1
    have hns18_0 := NB289_291.out
    have hns18_1 := NB290_291.out
    have hms18_0 := NB291_289.out
    have hms18_1 := NB291_290.out
    refine skip_ (w1 := ?_) (by rfl) rfl ?_ ?_
    rotate_left
    ·
     go_simp
     rfl
    refine hK.out _ _ ?_
    clear hK K
    refine done_ (done_of HT_.out (by kernel_rfl)) ?_
    try go_wp2
    go_roundg k1
    case measure => have := HK1.out; omega
    case rel => exact ⟨(wrap64 (x6_1 - 1)), (t295), (t296), fr, H', kS HK1, ⟨gB BK289⟩, ⟨gB BK290⟩, ⟨gP BK291 rfl⟩, ⟨bh HB⟩⟩
   rw [if_neg c9] at H
   have c9b0 : decide (0 ≤ x6_1) = false := decide_eq_false c9
   clear c9
   simp only [Option.some.injEq, Prod.mk.injEq] at H
   obtain ⟨rfl, rfl⟩ := H
   have hnb19 := NB291_289.out
   have hnc19 := NB289_291.out
   have hnb20 := NB291_290.out
   have hnc20 := NB290_291.out
   obtain ⟨z21_0, z21_1, y21_0, y21_1⟩ := bx2 BK291
   have hnb22 := NB290_289.out
   have hnc22 := NB289_290.out
   obtain ⟨z23_0, z23_1, y23_0, y23_1⟩ := bx2 BK290
   go_wp2
   refine bodyPost_ret (results_cell_row rfl _ _ gb290 33 #[.int .i64 x292000_1, .int .i64 x292001_1] (0, 0) _ rfl (gP BK290 rfl) Try.underlying33 rfl (by kernel_rfl)) rfl ?_
   exact ⟨fe, bh HB⟩

end Go.Proofs.Ytcbfnmabckjijaa.PTuskStops
