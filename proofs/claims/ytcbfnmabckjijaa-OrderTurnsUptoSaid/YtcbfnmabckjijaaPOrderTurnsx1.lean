-- written by a program of this session (pp.py), out of the kit's print and this session's contracts
import Derived.Test.YtcbfnmabckjijaaPOrderTurnsx0
import Derived.Test.YtcbfnmabckjijaaVOrderTurnsPg
namespace Go.Proofs.Ytcbfnmabckjijaa.POrderTurns
open Go.RowKit Go.Proofs.YtcbfnmabckjijaaW.PrintWords Go.Proofs.YtcbfnmabckjijaaW.PrintLast Go.Proofs.YtcbfnmabckjijaaW.PrintMore
set_option linter.unusedVariables false
set_option linter.unusedSimpArgs false

def dag_Round.l0 : Nat → Int → List (S37) → List (S37) → Int → Int → Option ((List (S37)))
 | 0, _, _, _, _, _ => none
 | k + 1, x1, x5, x9, x10, x11 => if x11 < x10 then (if 0 ≤ x11 then (if x11 < (x9.length : Int) then (if ((rd_T37 x9 x11).f1.f1) = x1 then (if x5.length < 1466015503701 then (dag_Round.l0 k x1 (x5 ++ [(⟨(rd_T37 x9 x11).f0, (⟨(rd_T37 x9 x11).f1.f0, (rd_T37 x9 x11).f1.f1, (rd_T37 x9 x11).f1.f2, (rd_T37 x9 x11).f1.f3, (⟨(rd_T37 x9 x11).f1.f4.f0, (rd_T37 x9 x11).f1.f4.f1⟩ : S33)⟩ : S35)⟩ : S37)]) x9 x10 (wrap64 (x11 + 1))) else (none)) else (dag_Round.l0 k x1 x5 x9 x10 (wrap64 (x11 + 1)))) else (none)) else (none)) else (some x5)
def dag_Round.f (k : Nat) (a0_0 : Int) (a0_1 : Int) (l0_2 : List (S37)) (a1 : Int) : Option ((List (S37))) := dag_Round.l0 k a1 ([] : List (S37)) l0_2 (l0_2.length : Int) 0
theorem dag_Round.mono_l : ∀ k, (∀ y0 y1 y2 y3 y4, LeO (dag_Round.l0 k y0 y1 y2 y3 y4) (dag_Round.l0 (k + 1) y0 y1 y2 y3 y4))
 | 0 => fun _ _ _ _ _ r h => by simp [dag_Round.l0] at h
 | k + 1 => by
  have ih0 := dag_Round.mono_l k
  ·
   intro y0 y1 y2 y3 y4
   unfold dag_Round.l0
   repeat' first
   | (with_reducible exact ih0 _ _ _ _ _)
   | (with_reducible exact LeO.refl _)
   | (with_reducible exact LeO.none _)
   | (with_reducible refine LeO.ite ?_ ?_)
   | (with_reducible refine LeO.bind ?_ (fun _ => ?_))
   | exact ih0 _ _ _ _ _
   | exact LeO.none _
   | refine LeO.ite ?_ ?_
   | refine LeO.bind ?_ (fun _ => ?_)
set_option maxHeartbeats 8000000 in
set_option maxRecDepth 100000 in
theorem dag_Round.calls (k : Nat) (a0_0 : Int) (a0_1 : Int) (P0_2_ : Nat → Prop) (A0_2 : Option Addr) (c0_2 : Nat) (l0_2 : List (S37)) (a1 : Int) (r : List (S37)) (w : World) (hs0_2 : Kd.V k37 37 w w.heap.size (fun k_ => P0_2_ k_) (.slice A0_2 l0_2.length c0_2) l0_2) (h : dag_Round.f k a0_0 a0_1 l0_2 a1 = some r) :
  Calls Try.prog 70 #[.agg #[.int .i64 a0_0, .int .i64 a0_1, .slice A0_2 l0_2.length c0_2], .int .i64 a1] w fun e w' => ∃ v0_ : Value, e = .returned (v0_) ∧ Kd.N k37 37 w' w.heap.size (fun k_ => (P0_2_ k_ ∨ w.heap.size ≤ k_)) v0_ r ∧ Below w.heap.size w w' := by
 have hu24 := Try.underlying24
 have hu37 := Try.underlying37
 have HO0_2 := am_ (show Kd.V k37 37 w w.heap.size (fun k_ => (P0_2_ k_ ∨ w.heap.size ≤ k_)) (.slice A0_2 l0_2.length c0_2) l0_2 from Kd.V_mono hs0_2 (fun k_ hk => .inl hk))
 have HB := am_ (Below.refl w.heap.size w)
 have H : (dag_Round.l0 k a1 ([] : List (S37)) l0_2 (l0_2.length : Int) 0) = some r := h
 clear h
 have H' := am_ H
 clear H
 go_enter Try.func70, Try.ntmps70
 go_wp2_with (first | ((with_reducible refine gate_dst (N := 2) rfl ?_); refine box_event ?hg (N := 2) ?hd (cs := #[.int .i64 a0_0, .int .i64 a0_1, .slice A0_2 l0_2.length c0_2]) (t := 24) ?hr ?_; (case hd => rfl); (case hg => rfl); (case hr => first | (go_simp; done) | (go_simp; rfl)); intro gb101 hg w3 hbox hb; replace HO0_2 := tVe HO0_2 hg hb; have BK101 := am_ hbox; have GW101 := tG HB hg; have GE101 := tG HB hg; replace HB := tHb HB hb; clear hb hbox hg; obtain ⟨hcz4_0, hcz4_1, hcz4_2, hfz4_0, hfz4_1, hfz4_2⟩ := bx3 BK101))
 go_loopg [5, 11] k (fun kq v5 v11 w' => ∃ (x5_1 : List (S37)) (x11_1 : Int), v11 = .int .i64 x11_1 ∧ Asc (dag_Round.l0 kq a1 x5_1 l0_2 (l0_2.length : Int) x11_1 = some r) ∧ Asc (kq ≤ k) ∧ Asc (Kd.N k37 37 w' w.heap.size (fun k_ => (P0_2_ k_ ∨ w.heap.size ≤ k_) ∧ k_ ≠ gb101) v5 x5_1) ∧ Asc (Kd.V k37 37 w' w.heap.size (fun k_ => (P0_2_ k_ ∨ w.heap.size ≤ k_) ∧ some k_ ≠ (v5 : Value).ownBlock ∧ k_ ≠ gb101) (.slice A0_2 l0_2.length c0_2) l0_2) ∧ Asc (Kd.V k37 37 w' w.heap.size (fun k_ => (P0_2_ k_ ∨ w.heap.size ≤ k_) ∧ some k_ ≠ (v5 : Value).ownBlock ∧ k_ ≠ gb101) (.slice A0_2 l0_2.length c0_2) l0_2) ∧ Asc (w'.heap[gb101]? = some (.cells #[.int .i64 a0_0, .int .i64 a0_1, (.slice A0_2 l0_2.length c0_2)] 24 (0, 0))) ∧ Asc (Below w.heap.size w w'))
 case atStart => exact ⟨(([] : List (S37))), (0), (by first | rfl | (simp; done) | (simp [*]; done)), H', ⟨Nat.le_refl _⟩, ⟨by first | exact Kd.R_nil _ _ _ _ _ | exact Kd.N_nil _ _ _ _ _ | exact Kd.V_nil _ _ _ _ _ | exact Kd.Q_nil _ _ _ _ _ | exact Kd.S_nil _ _ _ _ _⟩, ⟨gV HO0_2⟩, ⟨gV HO0_2⟩, ⟨gB BK101⟩, ⟨bh HB⟩⟩
 case round =>
  clear H'
  try clear hcz4_0 hcz4_1 hcz4_2 hfz4_0 hfz4_1 hfz4_2
  obtain ⟨x5_1, x11_1, rfl, HA, HK1, HO_5, HO_9, HO_102002, BK101, HB⟩ := hrel
  cases gk with
  | zero => exact absurd HA.out (by simp [dag_Round.l0])
  | succ k1 =>
   have H := HA.out
   clear HA
   simp only [dag_Round.l0] at H
   by_cases c5 : x11_1 < (l0_2.length : Int)
   ·
    rw [if_pos c5] at H
    have c5b0 : decide (x11_1 < (l0_2.length : Int)) = true := decide_eq_true c5
    clear c5
    revert H
    refine gi (fun c6b0 H => ?_)
    revert H
    refine gi (fun c7b0 H => ?_)
    by_cases c8 : ((rd_T37 l0_2 x11_1).f1.f1) = a1
    ·
     rw [if_pos c8] at H
     have c8b0 : (((rd_T37 l0_2 x11_1).f1.f1) == a1) = true := beq_iff_eq.mpr c8
     have c8b1 : (((rd_T37 l0_2 x11_1).f1.f1) != a1) = false := bne_eq_false_iff_eq.mpr c8
     clear c8
     revert H
     refine gi' (fun c9 H => ?_)
     have LMc9 := am_ c9
     clear c9
     obtain ⟨y104, hy104⟩ : ∃ y_ : List (S37), y_ = (x5_1 ++ [(⟨(rd_T37 l0_2 x11_1).f0, (⟨(rd_T37 l0_2 x11_1).f1.f0, (rd_T37 l0_2 x11_1).f1.f1, (rd_T37 l0_2 x11_1).f1.f2, (rd_T37 l0_2 x11_1).f1.f3, (⟨(rd_T37 l0_2 x11_1).f1.f4.f0, (rd_T37 l0_2 x11_1).f1.f4.f1⟩ : S33)⟩ : S35)⟩ : S37)]) := ⟨_, rfl⟩
     replace H : (dag_Round.l0 k1 a1 y104 l0_2 (l0_2.length : Int) (wrap64 (x11_1 + 1))) = some r := by first | (rw [hy104]; with_reducible exact H) | (have H2_ := (Option.bind_some _ _).symm.trans H; rw [hy104]; with_reducible exact H2_) | (have H2_ := (Option.bind_some _ _).symm.trans H; with_reducible exact H2_) | with_reducible exact H | (rw [hy104]; exact H) | exact H
     have Ny104 := am_ hy104
     clear hy104
     have H' := am_ H
     clear H
     have p102 : 0 ≤ (x11_1 : Int) := of_decide_eq_true ‹_›
     have q102 : x11_1 < (l0_2.length : Int) := of_decide_eq_true ‹_›
     obtain ⟨ad102, A102_3, c102_3, A102_4, c102_4, e102, hx102_0, hx102_1, hx102_2, hx102_3, hx102_4, hx102_5, hx102_6, hl102_3, hi102_3, hl102_4, hi102_4⟩ := at_T37 (Kd.V_reads' HO_9.out).2.2 x11_1 p102 q102
     cases e102
     obtain ⟨ce102, hce102, hMe102, hcc102⟩ := Kd.V_get HO_9.out z37 x11_1 p102 (by first | exact q102 | exact of_decide_eq_true ‹_› | (have e_ := (Kd.V_reads' HO_9.out).1; omega))
     obtain ⟨ua102_3, uc102_3, ua102_4, uc102_4, rfl, ul102_3, ge102_3, ul102_4, ge102_4⟩ := k37_openF hMe102
     have hv102_3 := hcc102 3 _ rfl
     rw [add_field _ _ 3 (by omega)] at hv102_3
     replace hv102_3 := Option.some.inj (hv102_3.symm.trans hx102_3)
     injection hv102_3 with hva_ hvn_ hvc_
     rw [hva_] at ge102_3
     rw [hvc_] at ul102_3
     have HL102_3 := am_ (show Kd.V k129 129 _ w.heap.size _ _ ((rd_T37 l0_2 x11_1).f1.f2) from Kd.V_mk ul102_3 ge102_3)
     clear hva_ hvn_ hvc_ ge102_3 ul102_3
     have hv102_4 := hcc102 4 _ rfl
     rw [add_field _ _ 4 (by omega)] at hv102_4
     replace hv102_4 := Option.some.inj (hv102_4.symm.trans hx102_4)
     injection hv102_4 with hva_ hvn_ hvc_
     rw [hva_] at ge102_4
     rw [hvc_] at ul102_4
     have HL102_4 := am_ (show Kd.V Kd.string 9 _ w.heap.size _ _ ((rd_T37 l0_2 x11_1).f1.f3) from Kd.V_mk ul102_4 ge102_4)
     clear hva_ hvn_ hvc_ ge102_4 ul102_4 hcc102 hce102
     have HR102_3 := am_ hi102_3
     have HC102_3 := am_ hl102_3
     clear hi102_3 hl102_3
     have HR102_4 := am_ hi102_4
     have HC102_4 := am_ hl102_4
     clear hi102_4 hl102_4
     replace p102 := eq_true p102
     replace q102 := eq_true q102
     go_wp2_with (first | ((with_reducible refine gate_dst (N := 7) rfl ?_); refine box_event ?hg (N := 7) ?hd (cs := #[.string (⟨#[]⟩ : ByteArray), .int .i64 0, .int .i64 0, .slice none 0 0, .slice none 0 0, .int .i64 0, .int .i64 0]) (t := 37) ?hr ?_; (case hd => rfl); (case hg => rfl); (case hr => first | (go_simp; done) | (go_simp; rfl)); intro gb103 hg w10 hbox hb; replace HO_5 := tNe HO_5 hg hb; replace HO_9 := tVe HO_9 hg hb; replace HO_102002 := tVe HO_102002 hg hb; replace HL102_3 := tVe HL102_3 hg hb; replace HL102_4 := tVe HL102_4 hg hb; replace HR102_3 := tCb HR102_3 hb; replace HR102_4 := tCb HR102_4 hb; have BK103 := am_ hbox; have GW103 := tG HB hg; have GE103 := tG HB hg; replace HB := tHb HB hb; have NB101_103 := tL BK101 hg; have NB103_101 := tR BK101 hg; replace BK101 := tBb BK101 hb; clear hb hbox hg; have hnb11 := NB103_101.out; have hnc11 := NB101_103.out; obtain ⟨hcz12_0, hcz12_1, hcz12_2, hcz12_3, hcz12_4, hcz12_5, hcz12_6, hfz12_0, hfz12_1, hfz12_2, hfz12_3, hfz12_4, hfz12_5, hfz12_6⟩ := bx7 BK103) | ((with_reducible refine gate_store (t := 37) (p := 7) rfl ?_); refine store_event (t := 37) (p := 7) (v := ?vo_w13) (w1 := (((((((w10.setCell ⟨gb103, 0, none⟩ (.string ((rd_T37 l0_2 x11_1).f0))).setCell ⟨gb103, 1, none⟩ (.int .i64 ((rd_T37 l0_2 x11_1).f1.f0))).setCell ⟨gb103, 2, none⟩ (.int .i64 ((rd_T37 l0_2 x11_1).f1.f1))).setCell ⟨gb103, 3, none⟩ (.slice A102_3 ((rd_T37 l0_2 x11_1).f1.f2).length c102_3)).setCell ⟨gb103, 4, none⟩ (.slice A102_4 ((rd_T37 l0_2 x11_1).f1.f3).length c102_4)).setCell ⟨gb103, 5, none⟩ (.int .i64 ((rd_T37 l0_2 x11_1).f1.f4.f0))).setCell ⟨gb103, 6, none⟩ (.int .i64 ((rd_T37 l0_2 x11_1).f1.f4.f1)))) ?hg ?ho ?hn ?hr ?_; (case ho => rfl); (case hg => rfl); (case hn => rfl); (case hr => first | (go_simp; done) | (go_simp; rfl)); intro w13 hw; replace HO_5 : Asc (Kd.N k37 37 w13 w.heap.size (fun k_ => (P0_2_ k_ ∨ w.heap.size ≤ k_) ∧ k_ ≠ gb101 ∧ k_ ≠ gb103) u5 x5_1) := ⟨(by rw [hw]; exact (gN HO_5))⟩; replace HO_9 : Asc (Kd.V k37 37 w13 w.heap.size (fun k_ => (P0_2_ k_ ∨ w.heap.size ≤ k_) ∧ some k_ ≠ (u5 : Value).ownBlock ∧ k_ ≠ gb101 ∧ k_ ≠ gb103) (.slice (some ad102) l0_2.length c0_2) l0_2) := ⟨(by rw [hw]; exact (gV HO_9))⟩; replace HO_102002 : Asc (Kd.V k37 37 w13 w.heap.size (fun k_ => (P0_2_ k_ ∨ w.heap.size ≤ k_) ∧ some k_ ≠ (u5 : Value).ownBlock ∧ k_ ≠ gb101 ∧ k_ ≠ gb103) (.slice (some ad102) l0_2.length c0_2) l0_2) := ⟨(by rw [hw]; exact (gV HO_102002))⟩; replace HL102_3 : Asc (Kd.V k129 129 w13 w.heap.size (fun k_ => (P0_2_ k_ ∨ w.heap.size ≤ k_) ∧ some k_ ≠ (u5 : Value).ownBlock ∧ k_ ≠ gb101 ∧ k_ ≠ gb103) (.slice A102_3 ((rd_T37 l0_2 x11_1).f1.f2).length c102_3) ((rd_T37 l0_2 x11_1).f1.f2)) := ⟨(by rw [hw]; exact (gV HL102_3))⟩; replace HL102_4 : Asc (Kd.V Kd.string 9 w13 w.heap.size (fun k_ => (P0_2_ k_ ∨ w.heap.size ≤ k_) ∧ some k_ ≠ (u5 : Value).ownBlock ∧ k_ ≠ gb101 ∧ k_ ≠ gb103) (.slice A102_4 ((rd_T37 l0_2 x11_1).f1.f3).length c102_4) ((rd_T37 l0_2 x11_1).f1.f3)) := ⟨(by rw [hw]; exact (gV HL102_4))⟩; replace BK101 : Asc (w13.heap[gb101]? = some (.cells #[.int .i64 a0_0, .int .i64 a0_1, .slice (some ad102) l0_2.length c0_2] 24 (0, 0))) := ⟨(by rw [hw]; exact (gB BK101))⟩; replace BK103 : Asc (w13.heap[gb103]? = some (.cells #[.string ((rd_T37 l0_2 x11_1).f0), .int .i64 ((rd_T37 l0_2 x11_1).f1.f0), .int .i64 ((rd_T37 l0_2 x11_1).f1.f1), .slice A102_3 ((rd_T37 l0_2 x11_1).f1.f2).length c102_3, .slice A102_4 ((rd_T37 l0_2 x11_1).f1.f3).length c102_4, .int .i64 ((rd_T37 l0_2 x11_1).f1.f4.f0), .int .i64 ((rd_T37 l0_2 x11_1).f1.f4.f1)] 37 (0, 0))) := ⟨(by rw [hw]; exact (gP BK103 rfl))⟩; replace HB : Asc (Below w.heap.size w w13) := ⟨(by rw [hw]; exact (bh HB))⟩; clear hw; obtain ⟨hcz14_0, hcz14_1, hcz14_2, hcz14_3, hcz14_4, hcz14_5, hcz14_6, hfz14_0, hfz14_1, hfz14_2, hfz14_3, hfz14_4, hfz14_5, hfz14_6⟩ := bx7 BK103) | ((with_reducible refine gate_builtin (b := .append) (xs := #[.tmp 20, .tmp 22]) rfl ?_); at_builtin; refine Kd.N_append k37 (w0 := w) w.heap.size rfl (.tmp 20) (.tmp 22) 22 37 (.agg #[(.string ⟨#[]⟩), (.int .i64 0), (.int .i64 0), (.slice none 0 0), (.slice none 0 0), (.int .i64 0), (.int .i64 0)]) 96 rfl Try.underlying22 info37 rfl (by decide) (by omega) u5 x5_1 (⟨(rd_T37 l0_2 x11_1).f0, (⟨(rd_T37 l0_2 x11_1).f1.f0, (rd_T37 l0_2 x11_1).f1.f1, (rd_T37 l0_2 x11_1).f1.f2, (rd_T37 l0_2 x11_1).f1.f3, (⟨(rd_T37 l0_2 x11_1).f1.f4.f0, (rd_T37 l0_2 x11_1).f1.f4.f1⟩ : S33)⟩ : S35)⟩ : S37) [.string ((rd_T37 l0_2 x11_1).f0), .int .i64 ((rd_T37 l0_2 x11_1).f1.f0), .int .i64 ((rd_T37 l0_2 x11_1).f1.f1), .slice A102_3 ((rd_T37 l0_2 x11_1).f1.f2).length c102_3, .slice A102_4 ((rd_T37 l0_2 x11_1).f1.f3).length c102_4, .int .i64 ((rd_T37 l0_2 x11_1).f1.f4.f0), .int .i64 ((rd_T37 l0_2 x11_1).f1.f4.f1)] (fun k_ => (P0_2_ k_ ∨ w.heap.size ≤ k_) ∧ k_ ≠ gb101 ∧ k_ ≠ gb103) (fun k_ => ((fun k_ => (P0_2_ k_ ∨ w.heap.size ≤ k_) ∧ k_ ≠ gb101 ∧ k_ ≠ gb103)) k_ ∧ some k_ ≠ (u5 : Value).ownBlock) rfl rfl ?aP (fun _ hk => hk) ?aF ?aO ?aB ?aS ?aL ?_; (case aP => exact (k37_mkF _ _ (⟨(rd_T37 l0_2 x11_1).f0, (⟨(rd_T37 l0_2 x11_1).f1.f0, (rd_T37 l0_2 x11_1).f1.f1, (rd_T37 l0_2 x11_1).f1.f2, (rd_T37 l0_2 x11_1).f1.f3, (⟨(rd_T37 l0_2 x11_1).f1.f4.f0, (rd_T37 l0_2 x11_1).f1.f4.f1⟩ : S33)⟩ : S35)⟩ : S37) (Kd.V_reads' (Kd.V_mono (ok' := (fun k_ => ((fun k_ => (P0_2_ k_ ∨ w.heap.size ≤ k_) ∧ k_ ≠ gb101 ∧ k_ ≠ gb103)) k_ ∧ some k_ ≠ (u5 : Value).ownBlock)) (HL102_3.out) (fun k_ hk => ⟨⟨hk.1, ⟨hk.2.2.1, hk.2.2.2⟩⟩, hk.2.1⟩))).2.1 (Kd.V_F (Kd.V_mono (ok' := (fun k_ => ((fun k_ => (P0_2_ k_ ∨ w.heap.size ≤ k_) ∧ k_ ≠ gb101 ∧ k_ ≠ gb103)) k_ ∧ some k_ ≠ (u5 : Value).ownBlock)) (HL102_3.out) (fun k_ hk => ⟨⟨hk.1, ⟨hk.2.2.1, hk.2.2.2⟩⟩, hk.2.1⟩))) (Kd.V_reads' (Kd.V_mono (ok' := (fun k_ => ((fun k_ => (P0_2_ k_ ∨ w.heap.size ≤ k_) ∧ k_ ≠ gb101 ∧ k_ ≠ gb103)) k_ ∧ some k_ ≠ (u5 : Value).ownBlock)) (HL102_4.out) (fun k_ hk => ⟨⟨hk.1, ⟨hk.2.2.1, hk.2.2.2⟩⟩, hk.2.1⟩))).2.1 (Kd.V_F (Kd.V_mono (ok' := (fun k_ => ((fun k_ => (P0_2_ k_ ∨ w.heap.size ≤ k_) ∧ k_ ≠ gb101 ∧ k_ ≠ gb103)) k_ ∧ some k_ ≠ (u5 : Value).ownBlock)) (HL102_4.out) (fun k_ hk => ⟨⟨hk.1, ⟨hk.2.2.1, hk.2.2.2⟩⟩, hk.2.1⟩))))); (case aB => exact (bh HB)); (case aF => exact (fun k_ hk => ⟨(.inr (Nat.le_trans (below_size (bh HB)) hk)), gFr BK101 k_ hk, gFr BK103 k_ hk⟩)); (case aO => exact (hN HO_5)); (case aS => exact (below_size (bh HB))); (case aL => have := LMc9.out; omega); intro v105 w15 ho hb hg hat; rw [← Ny104.out] at ho; replace HO_9 := am_ (Kd.V_afterv (ok := (fun k_ => (P0_2_ k_ ∨ w.heap.size ≤ k_) ∧ k_ ≠ gb101 ∧ k_ ≠ gb103)) (gV HO_9) hg hat); replace HO_102002 := am_ (Kd.V_afterv (ok := (fun k_ => (P0_2_ k_ ∨ w.heap.size ≤ k_) ∧ k_ ≠ gb101 ∧ k_ ≠ gb103)) (gV HO_102002) hg hat); replace BK101 := tBg BK101 hg (Kd.N_ne HO_5.out BK101.out (by decide)); replace HL102_3 := am_ (Kd.V_afterv (ok := (fun k_ => (P0_2_ k_ ∨ w.heap.size ≤ k_) ∧ k_ ≠ gb101 ∧ k_ ≠ gb103)) (gV HL102_3) hg hat); replace HL102_4 := am_ (Kd.V_afterv (ok := (fun k_ => (P0_2_ k_ ∨ w.heap.size ≤ k_) ∧ k_ ≠ gb101 ∧ k_ ≠ gb103)) (gV HL102_4) hg hat); replace BK103 := tBg BK103 hg (Kd.N_away HO_5.out (fun _ hk => hk.2.2)); replace HB := am_ hb; have HO106 := am_ (ho); clear HO_5 ho hb hg hat))
     go_roundg k1
     case measure => have := HK1.out; omega
     case rel => exact ⟨(y104), (wrap64 (x11_1 + 1)), (by first | rfl | (simp; done) | (simp [*]; done)), H', kS HK1, ⟨gN HO106⟩, ⟨gV HO_9⟩, ⟨gV HO_102002⟩, ⟨gB BK101⟩, ⟨bh HB⟩⟩
    rw [if_neg c8] at H
    have c8b0 : (((rd_T37 l0_2 x11_1).f1.f1) == a1) = false := beq_eq_false_iff_ne.mpr c8
    have c8b1 : (((rd_T37 l0_2 x11_1).f1.f1) != a1) = true := bne_iff_ne.mpr c8
    have H' := am_ H
    clear H
    have p102 : 0 ≤ (x11_1 : Int) := of_decide_eq_true ‹_›
    have q102 : x11_1 < (l0_2.length : Int) := of_decide_eq_true ‹_›
    obtain ⟨ad102, A102_3, c102_3, A102_4, c102_4, e102, hx102_0, hx102_1, hx102_2, hx102_3, hx102_4, hx102_5, hx102_6, hl102_3, hi102_3, hl102_4, hi102_4⟩ := at_T37 (Kd.V_reads' HO_9.out).2.2 x11_1 p102 q102
    cases e102
    obtain ⟨ce102, hce102, hMe102, hcc102⟩ := Kd.V_get HO_9.out z37 x11_1 p102 (by first | exact q102 | exact of_decide_eq_true ‹_› | (have e_ := (Kd.V_reads' HO_9.out).1; omega))
    obtain ⟨ua102_3, uc102_3, ua102_4, uc102_4, rfl, ul102_3, ge102_3, ul102_4, ge102_4⟩ := k37_openF hMe102
    have hv102_3 := hcc102 3 _ rfl
    rw [add_field _ _ 3 (by omega)] at hv102_3
    replace hv102_3 := Option.some.inj (hv102_3.symm.trans hx102_3)
    injection hv102_3 with hva_ hvn_ hvc_
    rw [hva_] at ge102_3
    rw [hvc_] at ul102_3
    have HL102_3 := am_ (show Kd.V k129 129 _ w.heap.size _ _ ((rd_T37 l0_2 x11_1).f1.f2) from Kd.V_mk ul102_3 ge102_3)
    clear hva_ hvn_ hvc_ ge102_3 ul102_3
    have hv102_4 := hcc102 4 _ rfl
    rw [add_field _ _ 4 (by omega)] at hv102_4
    replace hv102_4 := Option.some.inj (hv102_4.symm.trans hx102_4)
    injection hv102_4 with hva_ hvn_ hvc_
    rw [hva_] at ge102_4
    rw [hvc_] at ul102_4
    have HL102_4 := am_ (show Kd.V Kd.string 9 _ w.heap.size _ _ ((rd_T37 l0_2 x11_1).f1.f3) from Kd.V_mk ul102_4 ge102_4)
    clear hva_ hvn_ hvc_ ge102_4 ul102_4 hcc102 hce102
    have HR102_3 := am_ hi102_3
    have HC102_3 := am_ hl102_3
    clear hi102_3 hl102_3
    have HR102_4 := am_ hi102_4
    have HC102_4 := am_ hl102_4
    clear hi102_4 hl102_4
    replace p102 := eq_true p102
    replace q102 := eq_true q102
    go_wp2_with (first | ((with_reducible refine gate_dst (N := 7) rfl ?_); refine box_event ?hg (N := 7) ?hd (cs := #[.string (⟨#[]⟩ : ByteArray), .int .i64 0, .int .i64 0, .slice none 0 0, .slice none 0 0, .int .i64 0, .int .i64 0]) (t := 37) ?hr ?_; (case hd => rfl); (case hg => rfl); (case hr => first | (go_simp; done) | (go_simp; rfl)); intro gb103 hg w16 hbox hb; replace HO_5 := tNe HO_5 hg hb; replace HO_9 := tVe HO_9 hg hb; replace HO_102002 := tVe HO_102002 hg hb; replace HL102_3 := tVe HL102_3 hg hb; replace HL102_4 := tVe HL102_4 hg hb; replace HR102_3 := tCb HR102_3 hb; replace HR102_4 := tCb HR102_4 hb; have BK103 := am_ hbox; have GW103 := tG HB hg; have GE103 := tG HB hg; replace HB := tHb HB hb; have NB101_103 := tL BK101 hg; have NB103_101 := tR BK101 hg; replace BK101 := tBb BK101 hb; clear hb hbox hg; have hnb17 := NB103_101.out; have hnc17 := NB101_103.out; obtain ⟨hcz18_0, hcz18_1, hcz18_2, hcz18_3, hcz18_4, hcz18_5, hcz18_6, hfz18_0, hfz18_1, hfz18_2, hfz18_3, hfz18_4, hfz18_5, hfz18_6⟩ := bx7 BK103))
    go_roundg k1
    case measure => have := HK1.out; omega
    case rel => exact ⟨(x5_1), (wrap64 (x11_1 + 1)), (by first | rfl | (simp; done) | (simp [*]; done)), H', kS HK1, ⟨gN HO_5⟩, ⟨gV HO_9⟩, ⟨gV HO_102002⟩, ⟨gB BK101⟩, ⟨bh HB⟩⟩
   rw [if_neg c5] at H
   have c5b0 : decide (x11_1 < (l0_2.length : Int)) = false := decide_eq_false c5
   clear c5
   obtain rfl := Option.some.inj H
   go_wp2
   go_ret
   exact ⟨_, by first | rfl | (simp [errW_none, errW_some] <;> rfl) | (simp [*, errW_none, errW_some] <;> rfl), gN HO_5, bh HB⟩

abbrev SE := S37
def RelE (W : World) (ok : Nat → Prop) (r : Si.ER) (x : SE) : Prop := r.d = x.f0 ∧ r.au = x.f1.f0 ∧ r.ro = x.f1.f1 ∧ r.n3 = x.f1.f2.length ∧ x.f1.f2.length ≤ r.c3 ∧ Kd.F k129 W ok r.A3 x.f1.f2.length x.f1.f2 ∧ r.n4 = x.f1.f3.length ∧ x.f1.f3.length ≤ r.c4 ∧ Kd.F Kd.string W ok r.A4 x.f1.f3.length x.f1.f3 ∧ r.ea = x.f1.f4.f0 ∧ r.eb = x.f1.f4.f1
def RelsE (W : World) (ok : Nat → Prop) : List Si.ER → List SE → Prop
 | [], [] => True
 | r :: rs, x :: xs => RelE W ok r x ∧ RelsE W ok rs xs
 | _, _ => False
theorem RelsE.len {W : World} {ok : Nat → Prop} : ∀ {rs : List Si.ER} {xs : List SE}, RelsE W ok rs xs → rs.length = xs.length
 | [], [], _ => rfl
 | r :: rs, x :: xs, h => by simp [RelsE.len h.2]
 | [], x :: xs, h => h.elim
 | r :: rs, [], h => h.elim
theorem RelsE.get {W : World} {ok : Nat → Prop} : ∀ {rs : List Si.ER} {xs : List SE} (_ : RelsE W ok rs xs) (i : Nat) (r : Si.ER) (x : SE), rs[i]? = some r → xs[i]? = some x → RelE W ok r x
 | [], [], _, i, r, x, h1, _ => by simp at h1
 | r :: rs, x :: xs, h, 0, r', x', h1, h2 => by
  have e1 : r = r' := by simpa using h1
  have e2 : x = x' := by simpa using h2
  subst e1; subst e2
  exact h.1
 | r :: rs, x :: xs, h, i + 1, r', x', h1, h2 => RelsE.get h.2 i r' x' (by simpa using h1) (by simpa using h2)
 | [], x :: xs, h, _, _, _, _, _ => h.elim
 | r :: rs, [], h, _, _, _, _, _ => h.elim
theorem RelE.imp {W W' : World} {ok ok' : Nat → Prop} {r : Si.ER} {x : SE} (h : RelE W ok r x) (hb : Below W.heap.size W W') (ho : ∀ k, ok k → ok' k) : RelE W' ok' r x := by
 obtain ⟨h1, h2, h3, h4, h5, h6, h7, h8, h9, h10, h11⟩ := h
 exact ⟨h1, h2, h3, h4, h5, Kd.F_mono (Kd.F_below h6 hb) ho, h7, h8, Kd.F_mono (Kd.F_below h9 hb) ho, h10, h11⟩
theorem RelsE.imp {W W' : World} {ok ok' : Nat → Prop} (hb : Below W.heap.size W W') (ho : ∀ k, ok k → ok' k) : ∀ {rs : List Si.ER} {xs : List SE}, RelsE W ok rs xs → RelsE W' ok' rs xs
 | [], [], _ => trivial
 | r :: rs, x :: xs, h => ⟨h.1.imp hb ho, RelsE.imp hb ho h.2⟩
 | [], x :: xs, h => h.elim
 | r :: rs, [], h => h.elim
theorem relsE_of {W : World} {ok : Nat → Prop} {ad : Addr} : ∀ (ms : List SE) (k : Nat), (∀ j x, ms[j]? = some x → ∃ r : Si.ER, RelE W ok r x ∧ ∀ (i : Nat) (u : Value), r.cs[i]? = some u → W.cell? (ad.add ((k + j) * 7 + i)) = some u) →
  ∃ rs, RelsE W ok rs ms ∧ ∀ (j : Nat) (r : Si.ER), rs[j]? = some r → ∀ (i : Nat) (u : Value), r.cs[i]? = some u → W.cell? (ad.add ((k + j) * 7 + i)) = some u
 | [], k, _ => ⟨[], trivial, fun j r h => by simp at h⟩
 | m :: ms, k, h => by
  obtain ⟨r, hr, hc⟩ := h 0 m rfl
  obtain ⟨rs, hrs, hcs⟩ := relsE_of (W := W) (ok := ok) (ad := ad) ms (k + 1) (fun j x hx => by
   have := h (j + 1) x (by simpa using hx)
   rw [show k + 1 + j = k + (j + 1) by omega]; exact this)
  refine ⟨r :: rs, ⟨hr, hrs⟩, fun j r' hr' => ?_⟩
  cases j with
  | zero =>
   have e : r = r' := by simpa using hr'
   subst e; exact hc
  | succ j =>
   have := hcs j r' (by simpa using hr')
   rw [show k + 1 + j = k + (j + 1) by omega] at this; exact this
theorem F_relsE {W : World} {ok : Nat → Prop} {A : Option Addr} {ms : List SE} (h : Kd.F k37 W ok A ms.length ms) : ∃ rs, RelsE W ok rs ms ∧ Si.Rowentry W A rs := by
 obtain ⟨_, _, hn⟩ := Kd.F_rows h
 by_cases h0 : 0 < ms.length
 ·
  obtain ⟨ad, rfl, hc⟩ := hn h0
  obtain ⟨rs, hrs, hcs⟩ := relsE_of (W := W) (ok := ok) (ad := ad) ms 0 (fun j x hx => by
   obtain ⟨cs, _, hK, hcell⟩ := hc j x hx
   obtain ⟨A3, c3, A4, c4, rfl, l3, hF3, l4, hF4⟩ := k37_openF hK
   have e3 : (k37).sz = 7 := rfl
   rw [e3] at hcell
   rw [Nat.zero_add]
   exact ⟨⟨x.f0, x.f1.f0, x.f1.f1, A3, x.f1.f2.length, c3, A4, x.f1.f3.length, c4, x.f1.f4.f0, x.f1.f4.f1⟩, ⟨rfl, rfl, rfl, rfl, l3, hF3, rfl, l4, hF4, rfl, rfl⟩, hcell⟩)
  refine ⟨rs, hrs, fun i x hx => ⟨ad, rfl, ?_⟩⟩
  have q := hcs i x hx
  rw [Nat.zero_add] at q
  rw [Si.add_more _ _ _ (by omega), Si.add_more _ _ _ (by omega), Si.add_more _ _ _ (by omega), Si.add_more _ _ _ (by omega), Si.add_more _ _ _ (by omega), Si.add_more _ _ _ (by omega)]
  exact ⟨q 0 _ rfl, q 1 _ rfl, q 2 _ rfl, q 3 _ rfl, q 4 _ rfl, q 5 _ rfl, q 6 _ rfl⟩
 have e : ms = [] := List.eq_nil_of_length_eq_zero (by omega)
 subst e
 exact ⟨[], trivial, fun i x hx => by simp at hx⟩
theorem first_rel {W : World} {ok : Nat → Prop} (p : Si.ER → Bool) (q : SE → Bool) (hpq : ∀ r x, RelE W ok r x → p r = q x) : ∀ (rs : List Si.ER) (l : List SE), RelsE W ok rs l → (match l.find? q with
  | some x => (Si.firstE p rs).2 = true ∧ RelE W ok (Si.firstE p rs).1 x
  | none => Si.firstE p rs = (Si.zER, false))
 | [], [], _ => rfl
 | r :: rs, x :: xs, h => by
  rw [Si.firstE_cons, List.find?_cons]
  have e := hpq r x h.1
  cases hq : q x with
  | true => rw [hq] at e; rw [if_pos e]; exact ⟨rfl, h.1⟩
  | false => rw [hq] at e; rw [if_neg (by rw [e]; decide)]; exact first_rel p q hpq rs xs h.2
 | [], x :: xs, h => h.elim
 | r :: rs, [], h => h.elim
def dag_Find.f (a0_0 : Int) (a0_1 : Int) (l0_2 : List SE) (a1 : ByteArray) : Option (ByteArray × Int × Int × List (S129) × List ByteArray × Int × Int × Bool) := match l0_2.find? (fun x => x.f0.toList == a1.toList) with
 | some x => some (x.f0, x.f1.f0, x.f1.f1, x.f1.f2, x.f1.f3, x.f1.f4.f0, x.f1.f4.f1, true)
 | none => some ((⟨#[]⟩ : ByteArray), 0, 0, [], [], 0, 0, false)
theorem dag_Find.calls (a0_0 : Int) (a0_1 : Int) (P0_2_ : Nat → Prop) (A0_2 : Option Addr) (c0_2 : Nat) (l0_2 : List (S37)) (a1 : ByteArray) (r1 : ByteArray) (r2 : Int) (r3 : Int) (r4 : List (S129)) (r5 : List ByteArray) (r6 : Int) (r7 : Int) (r8 : Bool) (w : World) (hs0_2 : Kd.V k37 37 w w.heap.size (fun k_ => P0_2_ k_) (.slice A0_2 l0_2.length c0_2) l0_2) (h : dag_Find.f a0_0 a0_1 l0_2 a1 = some (r1, r2, r3, r4, r5, r6, r7, r8)) :
  Calls Try.prog 68 #[.agg #[.int .i64 a0_0, .int .i64 a0_1, .slice A0_2 l0_2.length c0_2], .string a1] w fun e w' => ∃ (v3_ : Value) (v4_ : Value), e = .returned (.tuple #[.agg #[.string r1, .int .i64 r2, .int .i64 r3, v3_, v4_, .int .i64 r6, .int .i64 r7], .bool r8]) ∧ Kd.V k129 129 w' w.heap.size (fun k_ => (P0_2_ k_ ∨ w.heap.size ≤ k_)) v3_ r4 ∧ Kd.V Kd.string 9 w' w.heap.size (fun k_ => (P0_2_ k_ ∨ w.heap.size ≤ k_)) v4_ r5 ∧ Below w.heap.size w w' := by
 obtain ⟨_, _, hF⟩ := Kd.V_at hs0_2
 have hmx := Kd.F_max hF
 obtain ⟨rs, hrs, hrow⟩ := F_relsE hF
 have hc := Si.find_c A0_2 c0_2 rs a0_0 a0_1 a1 w hrow (by rw [hrs.len]; exact hmx)
 have hf := first_rel (fun r : Si.ER => r.d.toList == a1.toList) (fun x : SE => x.f0.toList == a1.toList) (fun r x hr => by rw [hr.1]) rs l0_2 hrs
 rw [hrs.len] at hc
 unfold dag_Find.f at h
 refine hc.mono ?_
 rintro e w' ⟨rfl, hb⟩
 cases hq : l0_2.find? (fun x => x.f0.toList == a1.toList) with
 | some x =>
  rw [hq] at h hf
  dsimp only at h hf
  simp only [Option.some.injEq, Prod.mk.injEq] at h
  obtain ⟨rfl, rfl, rfl, rfl, rfl, rfl, rfl, rfl⟩ := h
  obtain ⟨h1, h2, h3, h4, h5, h6, h7, h8, h9, h10, h11, h12⟩ := hf
  rw [h1]
  generalize (Si.firstE (fun x => x.d.toList == a1.toList) rs).1 = r at h2 h3 h4 h5 h6 h7 h8 h9 h10 h11 h12
  obtain ⟨yd, yau, yro, yA3, yn3, yc3, yA4, yn4, yc4, yea, yeb⟩ := r
  dsimp only at h2 h3 h4 h5 h6 h7 h8 h9 h10 h11 h12
  subst h2 h3 h4 h5 h8 h11 h12
  exact ⟨_, _, rfl, Kd.V_mono (Kd.V_mk h6 (Kd.F_below h7 hb)) (fun k hk => .inl hk), Kd.V_mono (Kd.V_mk h9 (Kd.F_below h10 hb)) (fun k hk => .inl hk), hb⟩
 | none =>
  rw [hq] at h hf
  dsimp only at h hf
  simp only [Option.some.injEq, Prod.mk.injEq] at h
  obtain ⟨rfl, rfl, rfl, rfl, rfl, rfl, rfl, rfl⟩ := h
  rw [hf]
  exact ⟨_, _, rfl, Kd.V_nil _ _ _ _ _, Kd.V_nil _ _ _ _ _, hb⟩

def mkOf (l : List (S54)) : List Si.MS := l.map fun x => (x.f0, x.f1, x.f2)
def mkTo (l : List Si.MS) : List (S54) := l.map fun x => ⟨x.1, x.2.1, x.2.2⟩
theorem mkOf_to (l : List Si.MS) : mkOf (mkTo l) = l := by
 unfold mkOf mkTo
 rw [List.map_map]
 exact List.map_id _
theorem mkOf_length (l : List (S54)) : (mkOf l).length = l.length := List.length_map _
theorem mkF {w : World} {P : Nat → Prop} {A : Option Addr} {l : List (S54)} (h : Kd.F k54 w P A l.length l) : Kd.F Si.kMk w P A (mkOf l).length (mkOf l) := by
 rw [mkOf_length]
 exact Kd.F_imp h (fun W' hC => Kd.C_iso.1 hC)
def order_Fresh.f (l0 : List (S54)) (a1 : Int) (a2 : Int) : Option Bool := some (Si.freshS (mkOf l0) a1 a2)
theorem order_Fresh.calls (A0 : Option Addr) (c0 : Nat) (l0 : List (S54)) (a1 : Int) (a2 : Int) (r : Bool) (w : World) (hr0 : Kd.C k54 w A0 l0.length l0) (hc0 : l0.length ≤ c0) (h : order_Fresh.f l0 a1 a2 = some r) :
  Calls Try.prog 21 #[.slice A0 l0.length c0, .int .i64 a1, .int .i64 a2] w fun e w' => e = .returned (.bool r) ∧ Below w.heap.size w w' := by
 obtain rfl := Option.some.inj h
 have c := Si.fresh_v _ A0 c0 (mkOf l0) a1 a2 w (mkF (Kd.C_F (show Kd.Heap k54 from Kd.heap_iso _ (Kd.heap_pair (Kd.heap_int .i64) (Kd.heap_pair (Kd.heap_int .i64) (Kd.heap_slice 3 (Kd.heap_int .i64))))) hr0)) (by rw [mkOf_length]; exact Kd.C_max hr0)
 rw [mkOf_length] at c
 exact c

def slices_Index_string_string.l0 : Nat → List ByteArray → ByteArray → Int → Int → Option (Int)
 | 0, _, _, _, _ => none
 | k + 1, x0, x1, x7, x8 => if x8 < x7 then (if 0 ≤ x8 then (if x8 < (x0.length : Int) then (if x1.toList = (rdOf ByteArray.empty x0 x8).toList then (some x8) else (slices_Index_string_string.l0 k x0 x1 x7 (wrap64 (x8 + 1)))) else (none)) else (none)) else (some (-1))
def slices_Index_string_string.f (k : Nat) (l0 : List ByteArray) (a1 : ByteArray) : Option (Int) := slices_Index_string_string.l0 k l0 a1 (l0.length : Int) 0
set_option maxHeartbeats 8000000 in
set_option maxRecDepth 100000 in
theorem slices_Index_string_string.calls (k : Nat) (A0 : Option Addr) (c0 : Nat) (l0 : List ByteArray) (a1 : ByteArray) (r : Int) (w : World) (hr0 : Kd.C Kd.string w A0 l0.length l0) (hc0 : l0.length ≤ c0) (h : slices_Index_string_string.f k l0 a1 = some r) :
  Calls Try.prog 79 #[.slice A0 l0.length c0, .string a1] w fun e w' => e = .returned (.int .i64 r) ∧ Drawn0 w w' := by
 have HR0 := am_ hr0
 have HC0 := am_ hc0
 clear hr0 hc0
 have H : (slices_Index_string_string.l0 k l0 a1 (l0.length : Int) 0) = some r := h
 clear h
 have H' := am_ H
 clear H
 go_enter Try.func79, Try.ntmps79
 go_wp2
 go_loopg [8] k (fun kq v8 w' => ∃ (x8_1 : Int), v8 = .int .i64 x8_1 ∧ Asc (slices_Index_string_string.l0 kq l0 a1 (l0.length : Int) x8_1 = some r) ∧ Asc (kq ≤ k) ∧ Drawn0 w w')
 case atStart => exact ⟨(0), (by first | rfl | (simp; done) | (simp [*]; done)), H', ⟨Nat.le_refl _⟩, by repeat (first | exact Drawn0.refl _ | apply Drawn0.step)⟩
 case round =>
  clear H'
  obtain ⟨x8_1, rfl, HA, HK1, ⟨m1, rfl⟩⟩ := hrel
  cases gk with
  | zero => exact absurd HA.out (by simp [slices_Index_string_string.l0])
  | succ k1 =>
   have H := HA.out
   clear HA
   simp only [slices_Index_string_string.l0] at H
   by_cases c3 : x8_1 < (l0.length : Int)
   ·
    rw [if_pos c3] at H
    have c3b0 : decide (x8_1 < (l0.length : Int)) = true := decide_eq_true c3
    clear c3
    revert H
    refine gi (fun c4b0 H => ?_)
    revert H
    refine gi (fun c5b0 H => ?_)
    by_cases c6 : a1.toList = (rdOf ByteArray.empty l0 x8_1).toList
    ·
     rw [if_pos c6] at H
     have c6b0 : (a1.toList == (rdOf ByteArray.empty l0 x8_1).toList) = true := beq_iff_eq.mpr c6
     have c6b1 : (a1.toList != (rdOf ByteArray.empty l0 x8_1).toList) = false := bne_eq_false_iff_eq.mpr c6
     clear c6
     obtain rfl := Option.some.inj H
     have p107 : 0 ≤ (x8_1 : Int) := of_decide_eq_true ‹_›
     have q107 : x8_1 < (l0.length : Int) := of_decide_eq_true ‹_›
     obtain ⟨ad107, e107, hx107_0⟩ := Kd.at_string HR0.out x8_1 p107 q107
     cases e107
     replace p107 := eq_true p107
     replace q107 := eq_true q107
     go_wp2
     go_ret
     exact ⟨by first | rfl | (simp; done) | (simp [*]; done), by repeat (first | exact Drawn0.refl _ | apply Drawn0.step)⟩
    rw [if_neg c6] at H
    have c6b0 : (a1.toList == (rdOf ByteArray.empty l0 x8_1).toList) = false := beq_eq_false_iff_ne.mpr c6
    have c6b1 : (a1.toList != (rdOf ByteArray.empty l0 x8_1).toList) = true := bne_iff_ne.mpr c6
    have H' := am_ H
    clear H
    have p107 : 0 ≤ (x8_1 : Int) := of_decide_eq_true ‹_›
    have q107 : x8_1 < (l0.length : Int) := of_decide_eq_true ‹_›
    obtain ⟨ad107, e107, hx107_0⟩ := Kd.at_string HR0.out x8_1 p107 q107
    cases e107
    replace p107 := eq_true p107
    replace q107 := eq_true q107
    go_wp2
    go_roundg k1
    case measure => have := HK1.out; omega
    case rel => exact ⟨(wrap64 (x8_1 + 1)), (by first | rfl | (simp; done) | (simp [*]; done)), H', kS HK1, by repeat (first | exact Drawn0.refl _ | apply Drawn0.step)⟩
   rw [if_neg c3] at H
   have c3b0 : decide (x8_1 < (l0.length : Int)) = false := decide_eq_false c3
   clear c3
   obtain rfl := Option.some.inj H
   go_wp2
   go_ret
   exact ⟨by first | rfl | (simp; done) | (simp [*]; done), by repeat (first | exact Drawn0.refl _ | apply Drawn0.step)⟩

def slices_Contains_string_string.f (k : Nat) (l0 : List ByteArray) (a1 : ByteArray) : Option (Bool) := (slices_Index_string_string.f k l0 a1).bind fun t108 => (some (decide (t108 ≥ 0)))
set_option maxHeartbeats 8000000 in
set_option maxRecDepth 100000 in
theorem slices_Contains_string_string.calls (k : Nat) (A0 : Option Addr) (c0 : Nat) (l0 : List ByteArray) (a1 : ByteArray) (r : Bool) (w : World) (hr0 : Kd.C Kd.string w A0 l0.length l0) (hc0 : l0.length ≤ c0) (h : slices_Contains_string_string.f k l0 a1 = some r) :
  Calls Try.prog 53 #[.slice A0 l0.length c0, .string a1] w fun e w' => e = .returned (.bool r) ∧ Drawn0 w w' := by
 have HR0 := am_ hr0
 have HC0 := am_ hc0
 clear hr0 hc0
 have H : ((slices_Index_string_string.f k l0 a1).bind fun t108 => (some (decide (t108 ≥ 0)))) = some r := h
 clear h
 replace H := Option.bind_eq_some_iff.mp H
 obtain ⟨t108, A30, H⟩ := H
 replace H : (some (decide (t108 ≥ 0))) = some r := H
 have A3 := am_ A30
 clear A30
 obtain rfl := Option.some.inj H
 go_enter Try.func53, Try.ntmps53
 go_wp2_with (first | ((with_reducible refine gate_callee (f := 79) rfl ?_); refine goesL_ (some 7) rfl rfl Try.func79 (by kernel_rfl) rfl #[.slice A0 l0.length c0, .string a1] rfl (by (try simp only [List.map_toArray, List.map_cons, List.map_nil]); first | done | rfl | (simp only [List.length_drop, List.length_take]; rfl)) ?_; (with_reducible refine (slices_Index_string_string.calls k _ _ l0 a1 t108 _ ?side1 ?side2 A3.out).mono ?_); (case side1 => exact gC HR0); (case side2 => exact HC0.out); rintro e w' ⟨rfl, ⟨nd, rfl⟩⟩; refine ⟨_, rfl, ?_⟩))
 go_ret
 exact ⟨by first | rfl | (simp; done) | (simp [*]; done), by repeat (first | exact Drawn0.refl _ | apply Drawn0.step)⟩

def order_Note.f (l0 : List (S54)) (a1 : Int) (a2 : Int) : Option (List (S54)) := if l0.length * 40 + 40 ≤ 140737488355328 ∧ (Si.ofS (mkOf l0) a1).1.2.2.length * 8 + 8 ≤ 140737488355328 then some (mkTo (Si.noteS (mkOf l0) a1 a2)) else none
theorem order_Note.calls (P0_ : Nat → Prop) (A0 : Option Addr) (c0 : Nat) (l0 : List (S54)) (a1 : Int) (a2 : Int) (r : List (S54)) (w : World) (hs0 : Kd.V k54 54 w w.heap.size (fun k_ => P0_ k_) (.slice A0 l0.length c0) l0) (h : order_Note.f l0 a1 a2 = some r) :
  Calls Try.prog 19 #[.slice A0 l0.length c0, .int .i64 a1, .int .i64 a2] w fun e w' => ∃ v0_ : Value, e = .returned (v0_) ∧ Kd.V k54 54 w' w.heap.size (fun k_ => (P0_ k_ ∨ w.heap.size ≤ k_)) v0_ r ∧ Below w.heap.size w w' := by
 unfold order_Note.f at h
 split at h
 ·
  rename_i hb
  obtain rfl := Option.some.inj h
  obtain ⟨_, hc, hF⟩ := Kd.V_at hs0
  have hv : Kd.V Si.kMk 54 w w.heap.size P0_ (.slice A0 (mkOf l0).length c0) (mkOf l0) := ⟨A0, c0, rfl, by rw [mkOf_length]; exact hc, mkF hF⟩
  have c := Si.note_v P0_ A0 c0 (mkOf l0) a1 a2 w hv (by rw [mkOf_length]; exact hb.1) hb.2
  rw [mkOf_length] at c
  refine c.mono ?_
  rintro e w' ⟨v, rfl, h1, h2⟩
  refine ⟨v, rfl, ?_, h2⟩
  obtain ⟨A, c1, rfl, hc1, hF1⟩ := h1
  have e : (mkTo (Si.noteS (mkOf l0) a1 a2)).length = (Si.noteS (mkOf l0) a1 a2).length := List.length_map _
  refine ⟨A, c1, by rw [e], by rw [e]; exact hc1, ?_⟩
  rw [e]
  refine Kd.F_imp hF1 (fun W' hC => Kd.C_iso.2 ?_)
  show Si.kMk.C W' A _ (mkOf (mkTo (Si.noteS (mkOf l0) a1 a2)))
  rw [mkOf_to]
  exact hC
 cases h

mutual
def order_right.j0 : Nat → Bool → Int → Int → List Int → Option (Bool)
 | 0, _, _, _, _ => none
 | k + 1, x17, x110000, x110001, x110002 => if x17 = true then (some false) else (order_right.l0 k x110002 (x110002.length : Int) 0 x110000 x110001 x110002)
def order_right.l0 : Nat → List Int → Int → Int → Int → Int → List Int → Option (Bool)
 | 0, _, _, _, _, _, _ => none
 | k + 1, x19, x20, x21, x110000, x110001, x110002 => if x21 < x20 then (if 0 ≤ x21 then (if x21 < (x19.length : Int) then (if (wrap64 ((rd x19 x21) - x110001)) ≤ 1 then (some false) else (if (wrap64 ((rd x19 x21) - x110001)) > 8 then (some false) else (if x21 > 0 then (if 0 ≤ (wrap64 (x21 - 1)) then (if (wrap64 (x21 - 1)) < (x110002.length : Int) then (if (rd x110002 (wrap64 (x21 - 1))) ≥ (rd x19 x21) then (some false) else (order_right.l0 k x19 x20 (wrap64 (x21 + 1)) x110000 x110001 x110002)) else (none)) else (none)) else (order_right.l0 k x19 x20 (wrap64 (x21 + 1)) x110000 x110001 x110002)))) else (none)) else (none)) else (some true)
end
def order_right.f (k : Nat) (a0_0 : Int) (a0_1 : Int) (l0_2 : List Int) : Option (Bool) := if a0_0 < 1 then (order_right.j0 k true a0_0 a0_1 l0_2) else (if a0_0 > 64 then (order_right.j0 k true a0_0 a0_1 l0_2) else (order_right.j0 k (decide (a0_1 < 0)) a0_0 a0_1 l0_2))
theorem order_right.mono_l : ∀ k, (∀ y0 y1 y2 y3, LeO (order_right.j0 k y0 y1 y2 y3) (order_right.j0 (k + 1) y0 y1 y2 y3)) ∧ (∀ y0 y1 y2 y3 y4 y5, LeO (order_right.l0 k y0 y1 y2 y3 y4 y5) (order_right.l0 (k + 1) y0 y1 y2 y3 y4 y5))
 | 0 => ⟨fun _ _ _ _ r h => by simp [order_right.j0] at h, fun _ _ _ _ _ _ r h => by simp [order_right.l0] at h⟩
 | k + 1 => by
  obtain ⟨ih0, ih1⟩ := order_right.mono_l k
  refine ⟨?_, ?_⟩
  ·
   intro y0 y1 y2 y3
   unfold order_right.j0
   repeat' first
   | (with_reducible exact ih0 _ _ _ _)
   | (with_reducible exact ih1 _ _ _ _ _ _)
   | (with_reducible exact LeO.refl _)
   | (with_reducible exact LeO.none _)
   | (with_reducible refine LeO.ite ?_ ?_)
   | (with_reducible refine LeO.bind ?_ (fun _ => ?_))
   | exact ih0 _ _ _ _
   | exact ih1 _ _ _ _ _ _
   | exact LeO.none _
   | refine LeO.ite ?_ ?_
   | refine LeO.bind ?_ (fun _ => ?_)
  intro y0 y1 y2 y3 y4 y5
  unfold order_right.l0
  repeat' first
  | (with_reducible exact ih0 _ _ _ _)
  | (with_reducible exact ih1 _ _ _ _ _ _)
  | (with_reducible exact LeO.refl _)
  | (with_reducible exact LeO.none _)
  | (with_reducible refine LeO.ite ?_ ?_)
  | (with_reducible refine LeO.bind ?_ (fun _ => ?_))
  | exact ih0 _ _ _ _
  | exact ih1 _ _ _ _ _ _
  | exact LeO.none _
  | refine LeO.ite ?_ ?_
  | refine LeO.bind ?_ (fun _ => ?_)
theorem order_right.mono : ∀ a0 a1 a2 k, LeO (order_right.f k a0 a1 a2) (order_right.f (k + 1) a0 a1 a2) := by
 intro a0 a1 a2 k
 obtain ⟨ih0, ih1⟩ := order_right.mono_l k
 unfold order_right.f
 repeat' first
   | (with_reducible exact ih0 _ _ _ _)
   | (with_reducible exact ih1 _ _ _ _ _ _)
   | (with_reducible exact LeO.refl _)
   | (with_reducible exact LeO.none _)
   | (with_reducible refine LeO.ite ?_ ?_)
   | (with_reducible refine LeO.bind ?_ (fun _ => ?_))
   | exact ih0 _ _ _ _
   | exact ih1 _ _ _ _ _ _
   | exact LeO.none _
   | refine LeO.ite ?_ ?_
   | refine LeO.bind ?_ (fun _ => ?_)
set_option maxHeartbeats 8000000 in
set_option maxRecDepth 100000 in
theorem order_right.calls (k : Nat) (a0_0 : Int) (a0_1 : Int) (A0_2 : Option Addr) (c0_2 : Nat) (l0_2 : List Int) (r : Bool) (w : World) (hr0_2 : Kd.C (Kd.int .i64) w A0_2 l0_2.length l0_2) (hc0_2 : l0_2.length ≤ c0_2) (h : order_right.f k a0_0 a0_1 l0_2 = some r) :
  Calls Try.prog 51 #[.agg #[.int .i64 a0_0, .int .i64 a0_1, .slice A0_2 l0_2.length c0_2]] w fun e w' => e = .returned (.bool r) ∧ Below w.heap.size w w' := by
 have hu54 := Try.underlying54
 have HR0_2 := am_ hr0_2
 have HC0_2 := am_ hc0_2
 clear hr0_2 hc0_2
 have HB := am_ (Below.refl w.heap.size w)
 have H : (if a0_0 < 1 then (order_right.j0 k true a0_0 a0_1 l0_2) else (if a0_0 > 64 then (order_right.j0 k true a0_0 a0_1 l0_2) else (order_right.j0 k (decide (a0_1 < 0)) a0_0 a0_1 l0_2))) = some r := h
 clear h
 have HC2 := am_ H
 clear H
 go_enter Try.func51, Try.ntmps51
 go_upto_region 1 with (first | ((with_reducible refine gate_dst (N := 1) rfl ?_); refine box_event ?hg (N := 1) ?hd (cs := #[.int .i64 a0_0, .int .i64 a0_1, .slice A0_2 l0_2.length c0_2]) (t := 54) ?hr ?_; (case hd => rfl); (case hg => rfl); (case hr => first | (go_simp; done) | (go_simp; rfl)); intro gb109 hg w3 hbox hb; have BK109 := am_ hbox; have GW109 := tG HB hg; have GE109 := tG HB hg; replace HB := tHb HB hb; clear hb hbox hg))
 (try simp only [Act.put, List.setIfInBounds_toArray, List.set_cons_zero, List.set_cons_succ])
 go_cut [17] (fun v17 wc => ∃ (kq : Nat) (x17_1 : Bool), v17 = .bool x17_1 ∧ Asc (order_right.j0 kq x17_1 a0_0 a0_1 l0_2 = some r) ∧ Asc (kq ≤ k) ∧ Asc (wc.heap[gb109]? = some (.cells #[.int .i64 a0_0, .int .i64 a0_1, (.slice A0_2 l0_2.length c0_2)] 54 (0, 0))) ∧ Asc (Below w.heap.size w wc))
 case first =>
  have H := HC2.out
  clear HC2
  by_cases c4 : a0_0 < 1
  ·
   rw [if_pos c4] at H
   have c4b0 : decide (a0_0 < 1) = true := decide_eq_true c4
   clear c4
   (first | rw [c4b0] | (simp only [i64_w, i32_w]; rw [c4b0]) | skip)
   have H' := am_ H
   clear H
   obtain ⟨hcz5_0, hcz5_1, hcz5_2, hfz5_0, hfz5_1, hfz5_2⟩ := bx3 BK109
   go_wp2
   go_meet
   case rel => exact ⟨_, (true), (by first | rfl | (simp; done) | (simp [*]; done)), H', ⟨by first | omega | exact Nat.le_refl _⟩, ⟨gB BK109⟩, ⟨bh HB⟩⟩
  rw [if_neg c4] at H
  have c4b0 : decide (a0_0 < 1) = false := decide_eq_false c4
  clear c4
  (first | rw [c4b0] | (simp only [i64_w, i32_w]; rw [c4b0]) | skip)
  by_cases c6 : a0_0 > 64
  ·
   rw [if_pos c6] at H
   have c6b0 : decide (64 < a0_0) = true := decide_eq_true c6
   clear c6
   have H' := am_ H
   clear H
   obtain ⟨hcz7_0, hcz7_1, hcz7_2, hfz7_0, hfz7_1, hfz7_2⟩ := bx3 BK109
   go_wp2
   go_meet
   case rel => exact ⟨_, (true), (by first | rfl | (simp; done) | (simp [*]; done)), H', ⟨by first | omega | exact Nat.le_refl _⟩, ⟨gB BK109⟩, ⟨bh HB⟩⟩
  rw [if_neg c6] at H
  have c6b0 : decide (64 < a0_0) = false := decide_eq_false c6
  clear c6
  have H' := am_ H
  clear H
  obtain ⟨hcz8_0, hcz8_1, hcz8_2, hfz8_0, hfz8_1, hfz8_2⟩ := bx3 BK109
  go_wp2
  go_meet
  case rel => exact ⟨_, (decide (a0_1 < 0)), (by first | rfl | (simp; done) | (simp [*]; done)), H', ⟨by first | omega | exact Nat.le_refl _⟩, ⟨gB BK109⟩, ⟨bh HB⟩⟩
 case rest =>
  clear HC2
  obtain ⟨kq, x17_1, rfl, HA, HJ1, BK109, HB⟩ := hcut
  cases kq with
  | zero => exact absurd HA.out (by simp [order_right.j0])
  | succ kj1 =>
   have H := HA.out
   clear HA
   simp only [order_right.j0] at H
   by_cases c9 : x17_1 = true
   ·
    subst c9
    have H1 : (some false) = some r := by rw [if_pos rfl] at H; exact H
    clear H
    have H := H1
    clear H1
    obtain rfl := Option.some.inj H
    go_wp2
    go_ret
    exact ⟨by first | rfl | (simp [errW_none, errW_some] <;> rfl) | (simp [*, errW_none, errW_some] <;> rfl), bh HB⟩
   replace c9 := Bool.eq_false_iff.mpr c9
   subst c9
   have H1 : (order_right.l0 kj1 l0_2 (l0_2.length : Int) 0 a0_0 a0_1 l0_2) = some r := by rw [if_neg (show ¬ (false = true) by decide)] at H; exact H
   clear H
   have H := H1
   clear H1
   have H' := am_ H
   clear H
   obtain ⟨hcz10_0, hcz10_1, hcz10_2, hfz10_0, hfz10_1, hfz10_2⟩ := bx3 BK109
   go_wp2
   go_loopg [21] kj1 (fun kq v21 w' => ∃ (x21_2 : Int), v21 = .int .i64 x21_2 ∧ Asc (order_right.l0 kq l0_2 (l0_2.length : Int) x21_2 a0_0 a0_1 l0_2 = some r) ∧ Asc (kq ≤ kj1) ∧ Asc (w'.heap[gb109]? = some (.cells #[.int .i64 a0_0, .int .i64 a0_1, (.slice A0_2 l0_2.length c0_2)] 54 (0, 0))) ∧ Asc (Below w.heap.size w w'))
   case atStart => exact ⟨(0), (by first | rfl | (simp; done) | (simp [*]; done)), H', ⟨Nat.le_refl _⟩, ⟨gB BK109⟩, ⟨bh HB⟩⟩
   case round =>
    clear H'
    try clear c9 hcz10_0 hcz10_1 hcz10_2 hfz10_0 hfz10_1 hfz10_2
    obtain ⟨x21_2, rfl, HA, HK2, BK109, HB⟩ := hrel
    cases gk with
    | zero => exact absurd HA.out (by simp [order_right.l0])
    | succ k2 =>
     have H := HA.out
     clear HA
     simp only [order_right.l0] at H
     by_cases c11 : x21_2 < (l0_2.length : Int)
     ·
      rw [if_pos c11] at H
      have c11b0 : decide (x21_2 < (l0_2.length : Int)) = true := decide_eq_true c11
      clear c11
      revert H
      refine gi (fun c12b0 H => ?_)
      revert H
      refine gi (fun c13b0 H => ?_)
      by_cases c14 : (wrap64 ((rd l0_2 x21_2) - a0_1)) ≤ 1
      ·
       rw [if_pos c14] at H
       have c14b0 : decide ((wrap64 ((rd l0_2 x21_2) - a0_1)) ≤ 1) = true := decide_eq_true c14
       clear c14
       obtain rfl := Option.some.inj H
       have p110 : 0 ≤ (x21_2 : Int) := of_decide_eq_true ‹_›
       have q110 : x21_2 < (l0_2.length : Int) := of_decide_eq_true ‹_›
       obtain ⟨ad110, e110, hx110_0⟩ := Kd.at_int HR0_2.out x21_2 p110 q110
       cases e110
       replace hx110_0 := ce HB hx110_0
       replace p110 := eq_true p110
       replace q110 := eq_true q110
       obtain ⟨hcz15_0, hcz15_1, hcz15_2, hfz15_0, hfz15_1, hfz15_2⟩ := bx3 BK109
       go_wp2
       go_ret
       exact ⟨by first | rfl | (simp [errW_none, errW_some] <;> rfl) | (simp [*, errW_none, errW_some] <;> rfl), bh HB⟩
      rw [if_neg c14] at H
      have c14b0 : decide ((wrap64 ((rd l0_2 x21_2) - a0_1)) ≤ 1) = false := decide_eq_false c14
      clear c14
      by_cases c16 : (wrap64 ((rd l0_2 x21_2) - a0_1)) > 8
      ·
       rw [if_pos c16] at H
       have c16b0 : decide (8 < (wrap64 ((rd l0_2 x21_2) - a0_1))) = true := decide_eq_true c16
       clear c16
       obtain rfl := Option.some.inj H
       have p110 : 0 ≤ (x21_2 : Int) := of_decide_eq_true ‹_›
       have q110 : x21_2 < (l0_2.length : Int) := of_decide_eq_true ‹_›
       obtain ⟨ad110, e110, hx110_0⟩ := Kd.at_int HR0_2.out x21_2 p110 q110
       cases e110
       replace hx110_0 := ce HB hx110_0
       replace p110 := eq_true p110
       replace q110 := eq_true q110
       obtain ⟨hcz17_0, hcz17_1, hcz17_2, hfz17_0, hfz17_1, hfz17_2⟩ := bx3 BK109
       go_wp2
       go_ret
       exact ⟨by first | rfl | (simp [errW_none, errW_some] <;> rfl) | (simp [*, errW_none, errW_some] <;> rfl), bh HB⟩
      rw [if_neg c16] at H
      have c16b0 : decide (8 < (wrap64 ((rd l0_2 x21_2) - a0_1))) = false := decide_eq_false c16
      clear c16
      by_cases c18 : x21_2 > 0
      ·
       rw [if_pos c18] at H
       have c18b0 : decide (0 < x21_2) = true := decide_eq_true c18
       clear c18
       obtain ⟨ji19, hji19⟩ : ∃ j_ : Int, (wrap64 (x21_2 - 1)) = j_ := ⟨_, rfl⟩
       replace H : (if 0 ≤ (ji19) then (if (ji19) < (l0_2.length : Int) then (if (rd l0_2 (ji19)) ≥ (rd l0_2 x21_2) then (some false) else (order_right.l0 k2 l0_2 (l0_2.length : Int) (wrap64 (x21_2 + 1)) a0_0 a0_1 l0_2)) else (none)) else (none)) = some r := by first | (rw [hji19] at H; exact H) | (simp only [hji19] at H ⊢; exact H)
       have hji19w : (IntKind.i64.wrap (x21_2 - 1)) = ji19 := (i64_w _).trans hji19
       revert H
       refine gi (fun c20b0 H => ?_)
       revert H
       refine gi (fun c21b0 H => ?_)
       by_cases c22 : (rd l0_2 (ji19)) ≥ (rd l0_2 x21_2)
       ·
        rw [if_pos c22] at H
        have c22b0 : decide ((rd l0_2 x21_2) ≤ (rd l0_2 (ji19))) = true := decide_eq_true c22
        clear c22
        obtain rfl := Option.some.inj H
        have p110 : 0 ≤ (x21_2 : Int) := of_decide_eq_true ‹_›
        have q110 : x21_2 < (l0_2.length : Int) := of_decide_eq_true ‹_›
        obtain ⟨ad110, e110, hx110_0⟩ := Kd.at_int HR0_2.out x21_2 p110 q110
        cases e110
        replace hx110_0 := ce HB hx110_0
        replace p110 := eq_true p110
        replace q110 := eq_true q110
        obtain ⟨hcz23_0, hcz23_1, hcz23_2, hfz23_0, hfz23_1, hfz23_2⟩ := bx3 BK109
        have p111 : 0 ≤ ((ji19) : Int) := of_decide_eq_true ‹_›
        have q111 : (ji19) < (l0_2.length : Int) := of_decide_eq_true ‹_›
        obtain ⟨ad111, e111, hx111_0⟩ := Kd.at_int HR0_2.out (ji19) p111 q111
        obtain rfl : ad110 = ad111 := (by injection e111)
        replace hx111_0 := ce HB hx111_0
        replace p111 := eq_true p111
        replace q111 := eq_true q111
        go_wp2
        go_ret
        exact ⟨by first | rfl | (simp [errW_none, errW_some] <;> rfl) | (simp only [← hji19]; first | rfl | (simp [errW_none, errW_some] <;> rfl)) | (simp [*, errW_none, errW_some] <;> rfl), bh HB⟩
       rw [if_neg c22] at H
       have c22b0 : decide ((rd l0_2 x21_2) ≤ (rd l0_2 (ji19))) = false := decide_eq_false c22
       clear c22
       have H' := am_ H
       clear H
       have p110 : 0 ≤ (x21_2 : Int) := of_decide_eq_true ‹_›
       have q110 : x21_2 < (l0_2.length : Int) := of_decide_eq_true ‹_›
       obtain ⟨ad110, e110, hx110_0⟩ := Kd.at_int HR0_2.out x21_2 p110 q110
       cases e110
       replace hx110_0 := ce HB hx110_0
       replace p110 := eq_true p110
       replace q110 := eq_true q110
       obtain ⟨hcz24_0, hcz24_1, hcz24_2, hfz24_0, hfz24_1, hfz24_2⟩ := bx3 BK109
       have p111 : 0 ≤ ((ji19) : Int) := of_decide_eq_true ‹_›
       have q111 : (ji19) < (l0_2.length : Int) := of_decide_eq_true ‹_›
       obtain ⟨ad111, e111, hx111_0⟩ := Kd.at_int HR0_2.out (ji19) p111 q111
       obtain rfl : ad110 = ad111 := (by injection e111)
       replace hx111_0 := ce HB hx111_0
       replace p111 := eq_true p111
       replace q111 := eq_true q111
       go_wp2
       go_roundg k2
       case measure => have := HJ1.out; have := HK2.out; omega
       case rel => exact ⟨(wrap64 (x21_2 + 1)), (by first | rfl | (simp; done) | (simp [*]; done)), H', ⟨by have := HJ1.out; have := HK2.out; omega⟩, ⟨gB BK109⟩, ⟨bh HB⟩⟩
      rw [if_neg c18] at H
      have c18b0 : decide (0 < x21_2) = false := decide_eq_false c18
      clear c18
      have H' := am_ H
      clear H
      have p110 : 0 ≤ (x21_2 : Int) := of_decide_eq_true ‹_›
      have q110 : x21_2 < (l0_2.length : Int) := of_decide_eq_true ‹_›
      obtain ⟨ad110, e110, hx110_0⟩ := Kd.at_int HR0_2.out x21_2 p110 q110
      cases e110
      replace hx110_0 := ce HB hx110_0
      replace p110 := eq_true p110
      replace q110 := eq_true q110
      obtain ⟨hcz25_0, hcz25_1, hcz25_2, hfz25_0, hfz25_1, hfz25_2⟩ := bx3 BK109
      go_wp2
      go_roundg k2
      case measure => have := HJ1.out; have := HK2.out; omega
      case rel => exact ⟨(wrap64 (x21_2 + 1)), (by first | rfl | (simp; done) | (simp [*]; done)), H', ⟨by have := HJ1.out; have := HK2.out; omega⟩, ⟨gB BK109⟩, ⟨bh HB⟩⟩
     rw [if_neg c11] at H
     have c11b0 : decide (x21_2 < (l0_2.length : Int)) = false := decide_eq_false c11
     clear c11
     obtain rfl := Option.some.inj H
     go_wp2
     go_ret
     exact ⟨by first | rfl | (simp [errW_none, errW_some] <;> rfl) | (simp [*, errW_none, errW_some] <;> rfl), bh HB⟩

end Go.Proofs.Ytcbfnmabckjijaa.POrderTurns
