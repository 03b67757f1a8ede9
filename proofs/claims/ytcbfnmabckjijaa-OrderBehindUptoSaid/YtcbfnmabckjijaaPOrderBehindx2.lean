-- written by a program of this session (pp.py), out of the kit's print and this session's contracts
import Derived.Test.YtcbfnmabckjijaaPOrderBehindx0
import Derived.Test.YtcbfnmabckjijaaVOrderBehindPe
namespace Go.Proofs.Ytcbfnmabckjijaa.POrderBehind
open Go.RowKit Go.Proofs.YtcbfnmabckjijaaW.PrintWords Go.Proofs.YtcbfnmabckjijaaW.PrintLast Go.Proofs.YtcbfnmabckjijaaW.PrintMore
set_option linter.unusedVariables false
set_option linter.unusedSimpArgs false

def dag_Round.l0 : Nat → Int → List (S37) → List (S37) → Int → Int → Option ((List (S37)))
 | 0, _, _, _, _, _ => none
 | k + 1, x1, x5, x9, x10, x11 => if x11 < x10 then (if 0 ≤ x11 then (if x11 < (x9.length : Int) then (if ((rd_T37 x9 x11).f1.f1) = x1 then (if x5.length < 1466015503701 then (dag_Round.l0 k x1 (x5 ++ [(⟨(rd_T37 x9 x11).f0, (⟨(rd_T37 x9 x11).f1.f0, (rd_T37 x9 x11).f1.f1, (rd_T37 x9 x11).f1.f2, (rd_T37 x9 x11).f1.f3, (⟨(rd_T37 x9 x11).f1.f4.f0, (rd_T37 x9 x11).f1.f4.f1⟩ : S33)⟩ : S35)⟩ : S37)]) x9 x10 (wrap64 (x11 + 1))) else (none)) else (dag_Round.l0 k x1 x5 x9 x10 (wrap64 (x11 + 1)))) else (none)) else (none)) else (some x5)
def dag_Round.f (k : Nat) (a0_0 : Int) (a0_1 : Int) (l0_2 : List (S37)) (a1 : Int) : Option ((List (S37))) := dag_Round.l0 k a1 ([] : List (S37)) l0_2 (l0_2.length : Int) 0
theorem dag_Round.mono_l : ∀ k, (∀ y0 y1 y2 y3 y4, LeO (dag_Round.l0 k y0 y1 y2 y3 y4) (dag_Round.l0 (k + 1) y0 y1 y2 y3 y4))
 | 0 => fun _ _ _ _ _ r h => by simp [dag_Round.l0] at h
 | k + 1 => by
  have ih0 := dag_Round.mono_l k
  ·
   intro y0 y1 y2 y3 y4
   unfold dag_Round.l0
   repeat' first
   | (with_reducible exact ih0 _ _ _ _ _)
   | (with_reducible exact LeO.refl _)
   | (with_reducible exact LeO.none _)
   | (with_reducible refine LeO.ite ?_ ?_)
   | (with_reducible refine LeO.bind ?_ (fun _ => ?_))
   | exact ih0 _ _ _ _ _
   | exact LeO.none _
   | refine LeO.ite ?_ ?_
   | refine LeO.bind ?_ (fun _ => ?_)
set_option maxHeartbeats 8000000 in
set_option maxRecDepth 100000 in
theorem dag_Round.calls (k : Nat) (a0_0 : Int) (a0_1 : Int) (P0_2_ : Nat → Prop) (A0_2 : Option Addr) (c0_2 : Nat) (l0_2 : List (S37)) (a1 : Int) (r : List (S37)) (w : World) (hs0_2 : Kd.V k37 37 w w.heap.size (fun k_ => P0_2_ k_) (.slice A0_2 l0_2.length c0_2) l0_2) (h : dag_Round.f k a0_0 a0_1 l0_2 a1 = some r) :
  Calls Try.prog 70 #[.agg #[.int .i64 a0_0, .int .i64 a0_1, .slice A0_2 l0_2.length c0_2], .int .i64 a1] w fun e w' => ∃ v0_ : Value, e = .returned (v0_) ∧ Kd.N k37 37 w' w.heap.size (fun k_ => (P0_2_ k_ ∨ w.heap.size ≤ k_)) v0_ r ∧ Below w.heap.size w w' := by
 have hu24 := Try.underlying24
 have hu37 := Try.underlying37
 have HO0_2 := Aside0.mk (show Kd.V k37 37 w w.heap.size (fun k_ => (P0_2_ k_ ∨ w.heap.size ≤ k_)) (.slice A0_2 l0_2.length c0_2) l0_2 from Kd.V_mono hs0_2 (fun k_ hk => .inl hk))
 have HB := Aside0.mk (Below.refl w.heap.size w)
 have H : (dag_Round.l0 k a1 ([] : List (S37)) l0_2 (l0_2.length : Int) 0) = some r := h
 clear h
 have H' := Aside0.mk H
 clear H
 go_enter Try.func70, Try.ntmps70
 go_wp2_with (first | ((with_reducible refine gate_dst (N := 2) rfl ?_); refine box_event ?hg (N := 2) ?hd (cs := #[.int .i64 a0_0, .int .i64 a0_1, .slice A0_2 l0_2.length c0_2]) (t := 24) ?hr ?_; (case hd => rfl); (case hg => rfl); (case hr => first | (go_simp; done) | (go_simp; rfl)); intro gb101 hg w3 hbox hb; have n0_ := Aside0.mk (Kd.V_below (Kd.V_elderB (Kd.pV HO0_2.out) gb101 (Nat.le_of_eq hg.symm)) hb); have n1_ := Aside0.mk (below_step (by repeat (first | (with_reducible first | exact HB.out | apply below_alloc | apply pw_below_drewN | apply below_drew1) | exact HB.out)) hb); have n2_ := Aside0.mk (hbox); have n3_ := Aside0.mk ((by rw [hg]; exact (below_size (by repeat (first | (with_reducible first | exact HB.out | apply below_alloc | apply pw_below_drewN | apply below_drew1) | exact HB.out))) : w.heap.size ≤ gb101)); have n4_ := Aside0.mk ((by rw [hg]; exact (below_size (by repeat (first | (with_reducible first | exact HB.out | apply below_alloc | apply pw_below_drewN | apply below_drew1) | exact HB.out))) : w.heap.size ≤ gb101)); clear HO0_2; clear HB; have HO0_2 := n0_; have HB := n1_; have BK101 := n2_; have GW101 := n3_; have GE101 := n4_; clear n0_ n1_ n2_ n3_ n4_; clear hb hbox hg; have hcz4_0 : w3.cell? ⟨gb101, 0, none⟩ = some (.int .i64 a0_0) := (blk_cell BK101.out 0).trans rfl; have hcz4_1 : w3.cell? ⟨gb101, 1, none⟩ = some (.int .i64 a0_1) := (blk_cell BK101.out 1).trans rfl; have hcz4_2 : w3.cell? ⟨gb101, 2, none⟩ = some (.slice A0_2 l0_2.length c0_2) := (blk_cell BK101.out 2).trans rfl; have hfz4_0 := blk_frozen BK101.out 0; have hfz4_1 := blk_frozen BK101.out 1; have hfz4_2 := blk_frozen BK101.out 2))
 go_loopg [5, 11] k (fun kq v5 v11 w' => ∃ (x5_1 : List (S37)) (x11_1 : Int), v11 = .int .i64 x11_1 ∧ Aside0 (dag_Round.l0 kq a1 x5_1 l0_2 (l0_2.length : Int) x11_1 = some r) ∧ Aside0 (kq ≤ k) ∧ Aside0 (Kd.N k37 37 w' w.heap.size (fun k_ => (P0_2_ k_ ∨ w.heap.size ≤ k_) ∧ k_ ≠ gb101) v5 x5_1) ∧ Aside0 (Kd.V k37 37 w' w.heap.size (fun k_ => (P0_2_ k_ ∨ w.heap.size ≤ k_) ∧ some k_ ≠ (v5 : Value).ownBlock ∧ k_ ≠ gb101) (.slice A0_2 l0_2.length c0_2) l0_2) ∧ Aside0 (Kd.V k37 37 w' w.heap.size (fun k_ => (P0_2_ k_ ∨ w.heap.size ≤ k_) ∧ some k_ ≠ (v5 : Value).ownBlock ∧ k_ ≠ gb101) (.slice A0_2 l0_2.length c0_2) l0_2) ∧ Aside0 (w'.heap[gb101]? = some (.cells #[.int .i64 a0_0, .int .i64 a0_1, (.slice A0_2 l0_2.length c0_2)] 24 (0, 0))) ∧ Aside0 (Below w.heap.size w w'))
 case atStart => exact ⟨(([] : List (S37))), (0), (by first | rfl | (simp; done) | (simp [*]; done)), H', ⟨Nat.le_refl _⟩, ⟨by first | exact Kd.R_nil _ _ _ _ _ | exact Kd.N_nil _ _ _ _ _ | exact Kd.V_nil _ _ _ _ _ | exact Kd.Q_nil _ _ _ _ _ | exact Kd.S_nil _ _ _ _ _⟩, ⟨by (with_reducible repeat (first | apply Kd.V_alloc | apply Kd.V_drewN | apply Kd.V_drew)); exact Kd.V_mono HO0_2.out (fun _ hk => ⟨hk.1, ⟨(by simp [Value.ownBlock]), hk.2⟩⟩)⟩, ⟨by (with_reducible repeat (first | apply Kd.V_alloc | apply Kd.V_drewN | apply Kd.V_drew)); exact Kd.V_mono HO0_2.out (fun _ hk => ⟨hk.1, ⟨(by simp [Value.ownBlock]), hk.2⟩⟩)⟩, ⟨by (with_reducible repeat (first | refine blk_drewN ?_ _ | refine blk_drew ?_ | refine blk_alloc ?_ _)); exact BK101.out⟩, ⟨by repeat (first | (with_reducible first | exact HB.out | apply below_alloc | apply pw_below_drewN | apply below_drew1 | refine below_set ?_ GE101.out) | exact HB.out)⟩⟩
 case round =>
  clear H'
  try clear p2
  try clear hcz4_0
  try clear hcz4_1
  try clear hcz4_2
  try clear hfz4_0
  try clear hfz4_1
  try clear hfz4_2
  obtain ⟨x5_1, x11_1, rfl, HA, HK1, HO_5, HO_9, HO_102002, BK101, HB⟩ := hrel
  cases gk with
  | zero => exact absurd HA.out (by simp [dag_Round.l0])
  | succ k1 =>
   have H := HA.out
   clear HA
   simp only [dag_Round.l0] at H
   by_cases c5 : x11_1 < (l0_2.length : Int)
   ·
    rw [if_pos c5] at H
    have c5b0 : decide (x11_1 < (l0_2.length : Int)) = true := decide_eq_true c5
    clear c5
    by_cases c6 : 0 ≤ x11_1
    ·
     rw [if_pos c6] at H
     have c6b0 : decide (0 ≤ x11_1) = true := decide_eq_true c6
     clear c6
     by_cases c7 : x11_1 < (l0_2.length : Int)
     ·
      rw [if_pos c7] at H
      have c7b0 : decide (x11_1 < (l0_2.length : Int)) = true := decide_eq_true c7
      clear c7
      by_cases c8 : ((rd_T37 l0_2 x11_1).f1.f1) = a1
      ·
       rw [if_pos c8] at H
       have c8b0 : (((rd_T37 l0_2 x11_1).f1.f1) == a1) = true := beq_iff_eq.mpr c8
       have c8b1 : (((rd_T37 l0_2 x11_1).f1.f1) != a1) = false := bne_eq_false_iff_eq.mpr c8
       clear c8
       by_cases c9 : x5_1.length < 1466015503701
       ·
        rw [if_pos c9] at H
        have LMc9 := Aside0.mk c9
        clear c9
        obtain ⟨y104, hy104⟩ : ∃ y_ : List (S37), y_ = (x5_1 ++ [(⟨(rd_T37 l0_2 x11_1).f0, (⟨(rd_T37 l0_2 x11_1).f1.f0, (rd_T37 l0_2 x11_1).f1.f1, (rd_T37 l0_2 x11_1).f1.f2, (rd_T37 l0_2 x11_1).f1.f3, (⟨(rd_T37 l0_2 x11_1).f1.f4.f0, (rd_T37 l0_2 x11_1).f1.f4.f1⟩ : S33)⟩ : S35)⟩ : S37)]) := ⟨_, rfl⟩
        replace H : (dag_Round.l0 k1 a1 y104 l0_2 (l0_2.length : Int) (wrap64 (x11_1 + 1))) = some r := by first | (rw [hy104]; with_reducible exact H) | (have H2_ := (Option.bind_some _ _).symm.trans H; rw [hy104]; with_reducible exact H2_) | (have H2_ := (Option.bind_some _ _).symm.trans H; with_reducible exact H2_) | with_reducible exact H | (rw [hy104]; exact H) | exact H
        have Ny104 := Aside0.mk hy104
        clear hy104
        have H' := Aside0.mk H
        clear H
        have p102 : 0 ≤ (x11_1 : Int) := of_decide_eq_true (by first | (with_reducible assumption) | assumption)
        have q102 : x11_1 < (l0_2.length : Int) := of_decide_eq_true (by first | (with_reducible assumption) | assumption)
        obtain ⟨ad102, A102_3, c102_3, A102_4, c102_4, e102, hx102_0, hx102_1, hx102_2, hx102_3, hx102_4, hx102_5, hx102_6, hl102_3, hi102_3, hl102_4, hi102_4⟩ := at_T37 (Kd.V_reads' HO_9.out).2.2 x11_1 p102 q102
        cases e102
        obtain ⟨ce102, hce102, hMe102, hcc102⟩ := Kd.V_get HO_9.out z37 x11_1 p102 (by first | exact q102 | exact of_decide_eq_true (by first | (with_reducible assumption) | assumption) | (have e_ := (Kd.V_reads' HO_9.out).1; omega))
        obtain ⟨ua102_3, uc102_3, ua102_4, uc102_4, rfl, ul102_3, ge102_3, ul102_4, ge102_4⟩ := k37_openF hMe102
        have hv102_3 := hcc102 3 _ rfl
        rw [add_field _ _ 3 (by omega)] at hv102_3
        replace hv102_3 := Option.some.inj (hv102_3.symm.trans hx102_3)
        injection hv102_3 with hva_ hvn_ hvc_
        rw [hva_] at ge102_3
        rw [hvc_] at ul102_3
        have HL102_3 := Aside0.mk (show Kd.V k129 129 _ w.heap.size _ _ ((rd_T37 l0_2 x11_1).f1.f2) from Kd.V_mk ul102_3 ge102_3)
        clear hva_ hvn_ hvc_ ge102_3 ul102_3
        have hv102_4 := hcc102 4 _ rfl
        rw [add_field _ _ 4 (by omega)] at hv102_4
        replace hv102_4 := Option.some.inj (hv102_4.symm.trans hx102_4)
        injection hv102_4 with hva_ hvn_ hvc_
        rw [hva_] at ge102_4
        rw [hvc_] at ul102_4
        have HL102_4 := Aside0.mk (show Kd.V Kd.string 9 _ w.heap.size _ _ ((rd_T37 l0_2 x11_1).f1.f3) from Kd.V_mk ul102_4 ge102_4)
        clear hva_ hvn_ hvc_ ge102_4 ul102_4
        clear hcc102 hce102
        have HR102_3 := Aside0.mk hi102_3
        have HC102_3 := Aside0.mk hl102_3
        clear hi102_3 hl102_3
        have HR102_4 := Aside0.mk hi102_4
        have HC102_4 := Aside0.mk hl102_4
        clear hi102_4 hl102_4
        replace p102 := eq_true p102
        replace q102 := eq_true q102
        go_wp2_with (first | ((with_reducible refine gate_dst (N := 7) rfl ?_); refine box_event ?hg (N := 7) ?hd (cs := #[.string (⟨#[]⟩ : ByteArray), .int .i64 0, .int .i64 0, .slice none 0 0, .slice none 0 0, .int .i64 0, .int .i64 0]) (t := 37) ?hr ?_; (case hd => rfl); (case hg => rfl); (case hr => first | (go_simp; done) | (go_simp; rfl)); intro gb103 hg w10 hbox hb; have n0_ := Aside0.mk (Kd.N_below (Kd.N_elderB (Kd.pN HO_5.out) gb103 (Nat.le_of_eq hg.symm)) hb); have n1_ := Aside0.mk (Kd.V_below (Kd.V_elderB (Kd.pV HO_9.out) gb103 (Nat.le_of_eq hg.symm)) hb); have n2_ := Aside0.mk (Kd.V_below (Kd.V_elderB (Kd.pV HO_102002.out) gb103 (Nat.le_of_eq hg.symm)) hb); have n3_ := Aside0.mk (Kd.V_below (Kd.V_elderB (Kd.pV HL102_3.out) gb103 (Nat.le_of_eq hg.symm)) hb); have n4_ := Aside0.mk (Kd.V_below (Kd.V_elderB (Kd.pV HL102_4.out) gb103 (Nat.le_of_eq hg.symm)) hb); have n5_ := Aside0.mk (blk_below (g := gb101) (o := .cells #[.int .i64 a0_0, .int .i64 a0_1, .slice (some ad102) l0_2.length c0_2] 24 (0, 0)) (pB BK101.out) hb); have n6_ := Aside0.mk (Kd.C_below (by repeat (first | (with_reducible exact HR102_3.out) | (with_reducible refine Kd.C_alloc ?_ _) | (with_reducible refine Kd.C_drewN ?_ _) | (with_reducible refine Kd.C_drew ?_) | exact HR102_3.out)) hb); have n7_ := Aside0.mk (Kd.C_below (by repeat (first | (with_reducible exact HR102_4.out) | (with_reducible refine Kd.C_alloc ?_ _) | (with_reducible refine Kd.C_drewN ?_ _) | (with_reducible refine Kd.C_drew ?_) | exact HR102_4.out)) hb); have n8_ := Aside0.mk (below_step (by repeat (first | (with_reducible first | exact HB.out | apply below_alloc | apply pw_below_drewN | apply below_drew1 | refine below_set ?_ GE101.out) | exact HB.out)) hb); have n9_ := Aside0.mk (hbox); have n10_ := Aside0.mk ((by rw [hg]; exact (below_size (by repeat (first | (with_reducible first | exact HB.out | apply below_alloc | apply pw_below_drewN | apply below_drew1 | refine below_set ?_ GE101.out) | exact HB.out))) : w.heap.size ≤ gb103)); have n11_ := Aside0.mk ((by rw [hg]; exact (below_size (by repeat (first | (with_reducible first | exact HB.out | apply below_alloc | apply pw_below_drewN | apply below_drew1 | refine below_set ?_ GE101.out) | exact HB.out))) : w.heap.size ≤ gb103)); have n12_ := Aside0.mk ((by rw [hg]; exact Nat.ne_of_lt (blk_lt (g := gb101) (o := .cells #[.int .i64 a0_0, .int .i64 a0_1, .slice (some ad102) l0_2.length c0_2] 24 (0, 0)) (pB BK101.out)) : gb101 ≠ gb103)); have n13_ := Aside0.mk ((by rw [hg]; exact Nat.ne_of_gt (blk_lt (g := gb101) (o := .cells #[.int .i64 a0_0, .int .i64 a0_1, .slice (some ad102) l0_2.length c0_2] 24 (0, 0)) (pB BK101.out)) : gb103 ≠ gb101)); clear HO_5; clear HO_9; clear HO_102002; clear HL102_3; clear HL102_4; clear BK101; clear HR102_3; clear HR102_4; clear HB; have HO_5 := n0_; have HO_9 := n1_; have HO_102002 := n2_; have HL102_3 := n3_; have HL102_4 := n4_; have BK101 := n5_; have HR102_3 := n6_; have HR102_4 := n7_; have HB := n8_; have BK103 := n9_; have GW103 := n10_; have GE103 := n11_; have NB101_103 := n12_; have NB103_101 := n13_; clear n0_ n1_ n2_ n3_ n4_ n5_ n6_ n7_ n8_ n9_ n10_ n11_ n12_ n13_; clear hb hbox hg; have hnb11 := NB103_101.out; have hnc11 := NB101_103.out; have hcz12_0 : w10.cell? ⟨gb103, 0, none⟩ = some (.string (⟨#[]⟩ : ByteArray)) := (blk_cell BK103.out 0).trans rfl; have hcz12_1 : w10.cell? ⟨gb103, 1, none⟩ = some (.int .i64 0) := (blk_cell BK103.out 1).trans rfl; have hcz12_2 : w10.cell? ⟨gb103, 2, none⟩ = some (.int .i64 0) := (blk_cell BK103.out 2).trans rfl; have hcz12_3 : w10.cell? ⟨gb103, 3, none⟩ = some (.slice none 0 0) := (blk_cell BK103.out 3).trans rfl; have hcz12_4 : w10.cell? ⟨gb103, 4, none⟩ = some (.slice none 0 0) := (blk_cell BK103.out 4).trans rfl; have hcz12_5 : w10.cell? ⟨gb103, 5, none⟩ = some (.int .i64 0) := (blk_cell BK103.out 5).trans rfl; have hcz12_6 : w10.cell? ⟨gb103, 6, none⟩ = some (.int .i64 0) := (blk_cell BK103.out 6).trans rfl; have hfz12_0 := blk_frozen BK103.out 0; have hfz12_1 := blk_frozen BK103.out 1; have hfz12_2 := blk_frozen BK103.out 2; have hfz12_3 := blk_frozen BK103.out 3; have hfz12_4 := blk_frozen BK103.out 4; have hfz12_5 := blk_frozen BK103.out 5; have hfz12_6 := blk_frozen BK103.out 6) | ((with_reducible refine gate_store (t := 37) (p := 7) rfl ?_); refine store_event (t := 37) (p := 7) (v := ?vo_w13) (w1 := (((((((w10.setCell ⟨gb103, 0, none⟩ (.string ((rd_T37 l0_2 x11_1).f0))).setCell ⟨gb103, 1, none⟩ (.int .i64 ((rd_T37 l0_2 x11_1).f1.f0))).setCell ⟨gb103, 2, none⟩ (.int .i64 ((rd_T37 l0_2 x11_1).f1.f1))).setCell ⟨gb103, 3, none⟩ (.slice A102_3 ((rd_T37 l0_2 x11_1).f1.f2).length c102_3)).setCell ⟨gb103, 4, none⟩ (.slice A102_4 ((rd_T37 l0_2 x11_1).f1.f3).length c102_4)).setCell ⟨gb103, 5, none⟩ (.int .i64 ((rd_T37 l0_2 x11_1).f1.f4.f0))).setCell ⟨gb103, 6, none⟩ (.int .i64 ((rd_T37 l0_2 x11_1).f1.f4.f1)))) ?hg ?ho ?hn ?hr ?_; (case ho => rfl); (case hg => rfl); (case hn => rfl); (case hr => first | (go_simp; done) | (go_simp; rfl)); intro w13 hw; have n0_ : Aside0 (Kd.N k37 37 w13 w.heap.size (fun k_ => (P0_2_ k_ ∨ w.heap.size ≤ k_) ∧ k_ ≠ gb101 ∧ k_ ≠ gb103) u5 x5_1) := ⟨(by rw [hw]; exact (Kd.pN (Kd.N_mono (Kd.N_far (p := ⟨gb103, 6, none⟩) (Kd.N_far (p := ⟨gb103, 5, none⟩) (Kd.N_far (p := ⟨gb103, 4, none⟩) (Kd.N_far (p := ⟨gb103, 3, none⟩) (Kd.N_far (p := ⟨gb103, 2, none⟩) (Kd.N_far (p := ⟨gb103, 1, none⟩) (Kd.N_far (p := ⟨gb103, 0, none⟩) (Kd.N_mono HO_5.out (fun k_ hk => (⟨hk, hk.2⟩ : _ ∧ k_ ≠ gb103))) (fun _ hk => hk.2) (.string ((rd_T37 l0_2 x11_1).f0))) (fun _ hk => hk.2) (.int .i64 ((rd_T37 l0_2 x11_1).f1.f0))) (fun _ hk => hk.2) (.int .i64 ((rd_T37 l0_2 x11_1).f1.f1))) (fun _ hk => hk.2) (.slice A102_3 ((rd_T37 l0_2 x11_1).f1.f2).length c102_3)) (fun _ hk => hk.2) (.slice A102_4 ((rd_T37 l0_2 x11_1).f1.f3).length c102_4)) (fun _ hk => hk.2) (.int .i64 ((rd_T37 l0_2 x11_1).f1.f4.f0))) (fun _ hk => hk.2) (.int .i64 ((rd_T37 l0_2 x11_1).f1.f4.f1))) (fun _ hk => ⟨hk.1.1.1, ⟨hk.1.1.2, hk.1.2⟩⟩))))⟩; have n1_ : Aside0 (Kd.V k37 37 w13 w.heap.size (fun k_ => (P0_2_ k_ ∨ w.heap.size ≤ k_) ∧ some k_ ≠ (u5 : Value).ownBlock ∧ k_ ≠ gb101 ∧ k_ ≠ gb103) (.slice (some ad102) l0_2.length c0_2) l0_2) := ⟨(by rw [hw]; exact (Kd.pV (Kd.V_mono (Kd.V_far (p := ⟨gb103, 6, none⟩) (Kd.V_far (p := ⟨gb103, 5, none⟩) (Kd.V_far (p := ⟨gb103, 4, none⟩) (Kd.V_far (p := ⟨gb103, 3, none⟩) (Kd.V_far (p := ⟨gb103, 2, none⟩) (Kd.V_far (p := ⟨gb103, 1, none⟩) (Kd.V_far (p := ⟨gb103, 0, none⟩) (Kd.V_mono HO_9.out (fun k_ hk => (⟨hk, hk.2⟩ : _ ∧ k_ ≠ gb103))) (fun _ hk => hk.2) (.string ((rd_T37 l0_2 x11_1).f0))) (fun _ hk => hk.2) (.int .i64 ((rd_T37 l0_2 x11_1).f1.f0))) (fun _ hk => hk.2) (.int .i64 ((rd_T37 l0_2 x11_1).f1.f1))) (fun _ hk => hk.2) (.slice A102_3 ((rd_T37 l0_2 x11_1).f1.f2).length c102_3)) (fun _ hk => hk.2) (.slice A102_4 ((rd_T37 l0_2 x11_1).f1.f3).length c102_4)) (fun _ hk => hk.2) (.int .i64 ((rd_T37 l0_2 x11_1).f1.f4.f0))) (fun _ hk => hk.2) (.int .i64 ((rd_T37 l0_2 x11_1).f1.f4.f1))) (fun _ hk => ⟨hk.1.1.1, ⟨hk.1.1.2.1, ⟨hk.1.1.2.2, hk.1.2⟩⟩⟩))))⟩; have n2_ : Aside0 (Kd.V k37 37 w13 w.heap.size (fun k_ => (P0_2_ k_ ∨ w.heap.size ≤ k_) ∧ some k_ ≠ (u5 : Value).ownBlock ∧ k_ ≠ gb101 ∧ k_ ≠ gb103) (.slice (some ad102) l0_2.length c0_2) l0_2) := ⟨(by rw [hw]; exact (Kd.pV (Kd.V_mono (Kd.V_far (p := ⟨gb103, 6, none⟩) (Kd.V_far (p := ⟨gb103, 5, none⟩) (Kd.V_far (p := ⟨gb103, 4, none⟩) (Kd.V_far (p := ⟨gb103, 3, none⟩) (Kd.V_far (p := ⟨gb103, 2, none⟩) (Kd.V_far (p := ⟨gb103, 1, none⟩) (Kd.V_far (p := ⟨gb103, 0, none⟩) (Kd.V_mono HO_102002.out (fun k_ hk => (⟨hk, hk.2⟩ : _ ∧ k_ ≠ gb103))) (fun _ hk => hk.2) (.string ((rd_T37 l0_2 x11_1).f0))) (fun _ hk => hk.2) (.int .i64 ((rd_T37 l0_2 x11_1).f1.f0))) (fun _ hk => hk.2) (.int .i64 ((rd_T37 l0_2 x11_1).f1.f1))) (fun _ hk => hk.2) (.slice A102_3 ((rd_T37 l0_2 x11_1).f1.f2).length c102_3)) (fun _ hk => hk.2) (.slice A102_4 ((rd_T37 l0_2 x11_1).f1.f3).length c102_4)) (fun _ hk => hk.2) (.int .i64 ((rd_T37 l0_2 x11_1).f1.f4.f0))) (fun _ hk => hk.2) (.int .i64 ((rd_T37 l0_2 x11_1).f1.f4.f1))) (fun _ hk => ⟨hk.1.1.1, ⟨hk.1.1.2.1, ⟨hk.1.1.2.2, hk.1.2⟩⟩⟩))))⟩; have n3_ : Aside0 (Kd.V k129 129 w13 w.heap.size (fun k_ => (P0_2_ k_ ∨ w.heap.size ≤ k_) ∧ some k_ ≠ (u5 : Value).ownBlock ∧ k_ ≠ gb101 ∧ k_ ≠ gb103) (.slice A102_3 ((rd_T37 l0_2 x11_1).f1.f2).length c102_3) ((rd_T37 l0_2 x11_1).f1.f2)) := ⟨(by rw [hw]; exact (Kd.pV (Kd.V_mono (Kd.V_far (p := ⟨gb103, 6, none⟩) (Kd.V_far (p := ⟨gb103, 5, none⟩) (Kd.V_far (p := ⟨gb103, 4, none⟩) (Kd.V_far (p := ⟨gb103, 3, none⟩) (Kd.V_far (p := ⟨gb103, 2, none⟩) (Kd.V_far (p := ⟨gb103, 1, none⟩) (Kd.V_far (p := ⟨gb103, 0, none⟩) (Kd.V_mono HL102_3.out (fun k_ hk => (⟨hk, hk.2⟩ : _ ∧ k_ ≠ gb103))) (fun _ hk => hk.2) (.string ((rd_T37 l0_2 x11_1).f0))) (fun _ hk => hk.2) (.int .i64 ((rd_T37 l0_2 x11_1).f1.f0))) (fun _ hk => hk.2) (.int .i64 ((rd_T37 l0_2 x11_1).f1.f1))) (fun _ hk => hk.2) (.slice A102_3 ((rd_T37 l0_2 x11_1).f1.f2).length c102_3)) (fun _ hk => hk.2) (.slice A102_4 ((rd_T37 l0_2 x11_1).f1.f3).length c102_4)) (fun _ hk => hk.2) (.int .i64 ((rd_T37 l0_2 x11_1).f1.f4.f0))) (fun _ hk => hk.2) (.int .i64 ((rd_T37 l0_2 x11_1).f1.f4.f1))) (fun _ hk => ⟨hk.1.1.1, ⟨hk.1.1.2.1, ⟨hk.1.1.2.2, hk.1.2⟩⟩⟩))))⟩; have n4_ : Aside0 (Kd.V Kd.string 9 w13 w.heap.size (fun k_ => (P0_2_ k_ ∨ w.heap.size ≤ k_) ∧ some k_ ≠ (u5 : Value).ownBlock ∧ k_ ≠ gb101 ∧ k_ ≠ gb103) (.slice A102_4 ((rd_T37 l0_2 x11_1).f1.f3).length c102_4) ((rd_T37 l0_2 x11_1).f1.f3)) := ⟨(by rw [hw]; exact (Kd.pV (Kd.V_mono (Kd.V_far (p := ⟨gb103, 6, none⟩) (Kd.V_far (p := ⟨gb103, 5, none⟩) (Kd.V_far (p := ⟨gb103, 4, none⟩) (Kd.V_far (p := ⟨gb103, 3, none⟩) (Kd.V_far (p := ⟨gb103, 2, none⟩) (Kd.V_far (p := ⟨gb103, 1, none⟩) (Kd.V_far (p := ⟨gb103, 0, none⟩) (Kd.V_mono HL102_4.out (fun k_ hk => (⟨hk, hk.2⟩ : _ ∧ k_ ≠ gb103))) (fun _ hk => hk.2) (.string ((rd_T37 l0_2 x11_1).f0))) (fun _ hk => hk.2) (.int .i64 ((rd_T37 l0_2 x11_1).f1.f0))) (fun _ hk => hk.2) (.int .i64 ((rd_T37 l0_2 x11_1).f1.f1))) (fun _ hk => hk.2) (.slice A102_3 ((rd_T37 l0_2 x11_1).f1.f2).length c102_3)) (fun _ hk => hk.2) (.slice A102_4 ((rd_T37 l0_2 x11_1).f1.f3).length c102_4)) (fun _ hk => hk.2) (.int .i64 ((rd_T37 l0_2 x11_1).f1.f4.f0))) (fun _ hk => hk.2) (.int .i64 ((rd_T37 l0_2 x11_1).f1.f4.f1))) (fun _ hk => ⟨hk.1.1.1, ⟨hk.1.1.2.1, ⟨hk.1.1.2.2, hk.1.2⟩⟩⟩))))⟩; have n5_ : Aside0 (w13.heap[gb101]? = some (.cells #[.int .i64 a0_0, .int .i64 a0_1, .slice (some ad102) l0_2.length c0_2] 24 (0, 0))) := ⟨(by rw [hw]; exact (by (with_reducible repeat (first | refine blk_drewN ?_ _ | refine blk_drew ?_ | refine blk_alloc ?_ _)); refine blk_far ?_ NB101_103.out _; (with_reducible repeat (first | refine blk_drewN ?_ _ | refine blk_drew ?_ | refine blk_alloc ?_ _)); refine blk_far ?_ NB101_103.out _; (with_reducible repeat (first | refine blk_drewN ?_ _ | refine blk_drew ?_ | refine blk_alloc ?_ _)); refine blk_far ?_ NB101_103.out _; (with_reducible repeat (first | refine blk_drewN ?_ _ | refine blk_drew ?_ | refine blk_alloc ?_ _)); refine blk_far ?_ NB101_103.out _; (with_reducible repeat (first | refine blk_drewN ?_ _ | refine blk_drew ?_ | refine blk_alloc ?_ _)); refine blk_far ?_ NB101_103.out _; (with_reducible repeat (first | refine blk_drewN ?_ _ | refine blk_drew ?_ | refine blk_alloc ?_ _)); refine blk_far ?_ NB101_103.out _; (with_reducible repeat (first | refine blk_drewN ?_ _ | refine blk_drew ?_ | refine blk_alloc ?_ _)); refine blk_far ?_ NB101_103.out _; (with_reducible repeat (first | refine blk_drewN ?_ _ | refine blk_drew ?_ | refine blk_alloc ?_ _)); exact BK101.out))⟩; have n6_ : Aside0 (w13.heap[gb103]? = some (.cells #[.string ((rd_T37 l0_2 x11_1).f0), .int .i64 ((rd_T37 l0_2 x11_1).f1.f0), .int .i64 ((rd_T37 l0_2 x11_1).f1.f1), .slice A102_3 ((rd_T37 l0_2 x11_1).f1.f2).length c102_3, .slice A102_4 ((rd_T37 l0_2 x11_1).f1.f3).length c102_4, .int .i64 ((rd_T37 l0_2 x11_1).f1.f4.f0), .int .i64 ((rd_T37 l0_2 x11_1).f1.f4.f1)] 37 (0, 0))) := ⟨(by rw [hw]; exact (by (with_reducible repeat (first | refine blk_drewN ?_ _ | refine blk_drew ?_ | refine blk_alloc ?_ _)); refine blk_put (cs := #[.string ((rd_T37 l0_2 x11_1).f0), .int .i64 ((rd_T37 l0_2 x11_1).f1.f0), .int .i64 ((rd_T37 l0_2 x11_1).f1.f1), .slice A102_3 ((rd_T37 l0_2 x11_1).f1.f2).length c102_3, .slice A102_4 ((rd_T37 l0_2 x11_1).f1.f3).length c102_4, .int .i64 ((rd_T37 l0_2 x11_1).f1.f4.f0), .int .i64 0]) ?_ 6 _ rfl; (with_reducible repeat (first | refine blk_drewN ?_ _ | refine blk_drew ?_ | refine blk_alloc ?_ _)); refine blk_put (cs := #[.string ((rd_T37 l0_2 x11_1).f0), .int .i64 ((rd_T37 l0_2 x11_1).f1.f0), .int .i64 ((rd_T37 l0_2 x11_1).f1.f1), .slice A102_3 ((rd_T37 l0_2 x11_1).f1.f2).length c102_3, .slice A102_4 ((rd_T37 l0_2 x11_1).f1.f3).length c102_4, .int .i64 0, .int .i64 0]) ?_ 5 _ rfl; (with_reducible repeat (first | refine blk_drewN ?_ _ | refine blk_drew ?_ | refine blk_alloc ?_ _)); refine blk_put (cs := #[.string ((rd_T37 l0_2 x11_1).f0), .int .i64 ((rd_T37 l0_2 x11_1).f1.f0), .int .i64 ((rd_T37 l0_2 x11_1).f1.f1), .slice A102_3 ((rd_T37 l0_2 x11_1).f1.f2).length c102_3, .slice none 0 0, .int .i64 0, .int .i64 0]) ?_ 4 _ rfl; (with_reducible repeat (first | refine blk_drewN ?_ _ | refine blk_drew ?_ | refine blk_alloc ?_ _)); refine blk_put (cs := #[.string ((rd_T37 l0_2 x11_1).f0), .int .i64 ((rd_T37 l0_2 x11_1).f1.f0), .int .i64 ((rd_T37 l0_2 x11_1).f1.f1), .slice none 0 0, .slice none 0 0, .int .i64 0, .int .i64 0]) ?_ 3 _ rfl; (with_reducible repeat (first | refine blk_drewN ?_ _ | refine blk_drew ?_ | refine blk_alloc ?_ _)); refine blk_put (cs := #[.string ((rd_T37 l0_2 x11_1).f0), .int .i64 ((rd_T37 l0_2 x11_1).f1.f0), .int .i64 0, .slice none 0 0, .slice none 0 0, .int .i64 0, .int .i64 0]) ?_ 2 _ rfl; (with_reducible repeat (first | refine blk_drewN ?_ _ | refine blk_drew ?_ | refine blk_alloc ?_ _)); refine blk_put (cs := #[.string ((rd_T37 l0_2 x11_1).f0), .int .i64 0, .int .i64 0, .slice none 0 0, .slice none 0 0, .int .i64 0, .int .i64 0]) ?_ 1 _ rfl; (with_reducible repeat (first | refine blk_drewN ?_ _ | refine blk_drew ?_ | refine blk_alloc ?_ _)); refine blk_put (cs := #[.string (⟨#[]⟩ : ByteArray), .int .i64 0, .int .i64 0, .slice none 0 0, .slice none 0 0, .int .i64 0, .int .i64 0]) ?_ 0 _ rfl; (with_reducible repeat (first | refine blk_drewN ?_ _ | refine blk_drew ?_ | refine blk_alloc ?_ _)); exact BK103.out))⟩; have n7_ : Aside0 (Below w.heap.size w w13) := ⟨(by rw [hw]; exact (by repeat (first | (with_reducible first | exact HB.out | apply below_alloc | apply pw_below_drewN | apply below_drew1 | refine below_set ?_ GE101.out | refine below_set ?_ GE103.out) | exact HB.out)))⟩; clear hw; clear HO_5; clear HO_9; clear HO_102002; clear HL102_3; clear HL102_4; clear BK101; clear BK103; clear HB; have HO_5 := n0_; have HO_9 := n1_; have HO_102002 := n2_; have HL102_3 := n3_; have HL102_4 := n4_; have BK101 := n5_; have BK103 := n6_; have HB := n7_; clear n0_ n1_ n2_ n3_ n4_ n5_ n6_ n7_; have hcz14_0 : w13.cell? ⟨gb103, 0, none⟩ = some (.string ((rd_T37 l0_2 x11_1).f0)) := (blk_cell BK103.out 0).trans rfl; have hcz14_1 : w13.cell? ⟨gb103, 1, none⟩ = some (.int .i64 ((rd_T37 l0_2 x11_1).f1.f0)) := (blk_cell BK103.out 1).trans rfl; have hcz14_2 : w13.cell? ⟨gb103, 2, none⟩ = some (.int .i64 ((rd_T37 l0_2 x11_1).f1.f1)) := (blk_cell BK103.out 2).trans rfl; have hcz14_3 : w13.cell? ⟨gb103, 3, none⟩ = some (.slice A102_3 ((rd_T37 l0_2 x11_1).f1.f2).length c102_3) := (blk_cell BK103.out 3).trans rfl; have hcz14_4 : w13.cell? ⟨gb103, 4, none⟩ = some (.slice A102_4 ((rd_T37 l0_2 x11_1).f1.f3).length c102_4) := (blk_cell BK103.out 4).trans rfl; have hcz14_5 : w13.cell? ⟨gb103, 5, none⟩ = some (.int .i64 ((rd_T37 l0_2 x11_1).f1.f4.f0)) := (blk_cell BK103.out 5).trans rfl; have hcz14_6 : w13.cell? ⟨gb103, 6, none⟩ = some (.int .i64 ((rd_T37 l0_2 x11_1).f1.f4.f1)) := (blk_cell BK103.out 6).trans rfl; have hfz14_0 := blk_frozen BK103.out 0; have hfz14_1 := blk_frozen BK103.out 1; have hfz14_2 := blk_frozen BK103.out 2; have hfz14_3 := blk_frozen BK103.out 3; have hfz14_4 := blk_frozen BK103.out 4; have hfz14_5 := blk_frozen BK103.out 5; have hfz14_6 := blk_frozen BK103.out 6) | ((with_reducible refine gate_builtin (b := .append) (xs := #[.tmp 20, .tmp 22]) rfl ?_); at_builtin; refine Kd.N_append k37 (w0 := w) w.heap.size rfl (.tmp 20) (.tmp 22) 22 37 (.agg #[(.string ⟨#[]⟩), (.int .i64 0), (.int .i64 0), (.slice none 0 0), (.slice none 0 0), (.int .i64 0), (.int .i64 0)]) 96 rfl Try.underlying22 info37 rfl (by decide) (by omega) u5 x5_1 (⟨(rd_T37 l0_2 x11_1).f0, (⟨(rd_T37 l0_2 x11_1).f1.f0, (rd_T37 l0_2 x11_1).f1.f1, (rd_T37 l0_2 x11_1).f1.f2, (rd_T37 l0_2 x11_1).f1.f3, (⟨(rd_T37 l0_2 x11_1).f1.f4.f0, (rd_T37 l0_2 x11_1).f1.f4.f1⟩ : S33)⟩ : S35)⟩ : S37) [.string ((rd_T37 l0_2 x11_1).f0), .int .i64 ((rd_T37 l0_2 x11_1).f1.f0), .int .i64 ((rd_T37 l0_2 x11_1).f1.f1), .slice A102_3 ((rd_T37 l0_2 x11_1).f1.f2).length c102_3, .slice A102_4 ((rd_T37 l0_2 x11_1).f1.f3).length c102_4, .int .i64 ((rd_T37 l0_2 x11_1).f1.f4.f0), .int .i64 ((rd_T37 l0_2 x11_1).f1.f4.f1)] (fun k_ => (P0_2_ k_ ∨ w.heap.size ≤ k_) ∧ k_ ≠ gb101 ∧ k_ ≠ gb103) (fun k_ => ((fun k_ => (P0_2_ k_ ∨ w.heap.size ≤ k_) ∧ k_ ≠ gb101 ∧ k_ ≠ gb103)) k_ ∧ some k_ ≠ (u5 : Value).ownBlock) rfl rfl ?aP (fun _ hk => hk) ?aF ?aO ?aB ?aS ?aL ?_; (case aP => exact (k37_mkF _ _ (⟨(rd_T37 l0_2 x11_1).f0, (⟨(rd_T37 l0_2 x11_1).f1.f0, (rd_T37 l0_2 x11_1).f1.f1, (rd_T37 l0_2 x11_1).f1.f2, (rd_T37 l0_2 x11_1).f1.f3, (⟨(rd_T37 l0_2 x11_1).f1.f4.f0, (rd_T37 l0_2 x11_1).f1.f4.f1⟩ : S33)⟩ : S35)⟩ : S37) (Kd.V_reads' (Kd.V_mono (ok' := (fun k_ => ((fun k_ => (P0_2_ k_ ∨ w.heap.size ≤ k_) ∧ k_ ≠ gb101 ∧ k_ ≠ gb103)) k_ ∧ some k_ ≠ (u5 : Value).ownBlock)) (HL102_3.out) (fun k_ hk => ⟨⟨hk.1, ⟨hk.2.2.1, hk.2.2.2⟩⟩, hk.2.1⟩))).2.1 (Kd.V_F (Kd.V_mono (ok' := (fun k_ => ((fun k_ => (P0_2_ k_ ∨ w.heap.size ≤ k_) ∧ k_ ≠ gb101 ∧ k_ ≠ gb103)) k_ ∧ some k_ ≠ (u5 : Value).ownBlock)) (HL102_3.out) (fun k_ hk => ⟨⟨hk.1, ⟨hk.2.2.1, hk.2.2.2⟩⟩, hk.2.1⟩))) (Kd.V_reads' (Kd.V_mono (ok' := (fun k_ => ((fun k_ => (P0_2_ k_ ∨ w.heap.size ≤ k_) ∧ k_ ≠ gb101 ∧ k_ ≠ gb103)) k_ ∧ some k_ ≠ (u5 : Value).ownBlock)) (HL102_4.out) (fun k_ hk => ⟨⟨hk.1, ⟨hk.2.2.1, hk.2.2.2⟩⟩, hk.2.1⟩))).2.1 (Kd.V_F (Kd.V_mono (ok' := (fun k_ => ((fun k_ => (P0_2_ k_ ∨ w.heap.size ≤ k_) ∧ k_ ≠ gb101 ∧ k_ ≠ gb103)) k_ ∧ some k_ ≠ (u5 : Value).ownBlock)) (HL102_4.out) (fun k_ hk => ⟨⟨hk.1, ⟨hk.2.2.1, hk.2.2.2⟩⟩, hk.2.1⟩))))); (case aB => exact (by repeat (first | (with_reducible first | exact HB.out | apply below_alloc | apply pw_below_drewN | apply below_drew1 | refine below_set ?_ GE101.out | refine below_set ?_ GE103.out) | exact HB.out))); (case aF => exact (fun k_ hk => ⟨(.inr (Nat.le_trans (below_size (by repeat (first | (with_reducible first | exact HB.out | apply below_alloc | apply pw_below_drewN | apply below_drew1 | refine below_set ?_ GE101.out | refine below_set ?_ GE103.out) | exact HB.out))) hk)), Kd.freshB (g := gb101) (o := .cells #[.int .i64 a0_0, .int .i64 a0_1, .slice (some ad102) l0_2.length c0_2] 24 (0, 0)) (pB BK101.out) k_ hk, Kd.freshB (g := gb103) (o := .cells #[.string ((rd_T37 l0_2 x11_1).f0), .int .i64 ((rd_T37 l0_2 x11_1).f1.f0), .int .i64 ((rd_T37 l0_2 x11_1).f1.f1), .slice A102_3 ((rd_T37 l0_2 x11_1).f1.f2).length c102_3, .slice A102_4 ((rd_T37 l0_2 x11_1).f1.f3).length c102_4, .int .i64 ((rd_T37 l0_2 x11_1).f1.f4.f0), .int .i64 ((rd_T37 l0_2 x11_1).f1.f4.f1)] 37 (0, 0)) (pB BK103.out) k_ hk⟩)); (case aO => exact (Kd.pN HO_5.out)); (case aS => exact (below_size (by repeat (first | (with_reducible first | exact HB.out | apply below_alloc | apply pw_below_drewN | apply below_drew1 | refine below_set ?_ GE101.out | refine below_set ?_ GE103.out) | exact HB.out)))); (case aL => have := LMc9.out; omega); intro v105 w15 ho hb hg hat; rw [← Ny104.out] at ho; have n0_ := Aside0.mk (Kd.V_afterv (ok := (fun k_ => (P0_2_ k_ ∨ w.heap.size ≤ k_) ∧ k_ ≠ gb101 ∧ k_ ≠ gb103)) (Kd.pV (Kd.V_mono HO_9.out (fun _ hk => ⟨⟨hk.1, ⟨hk.2.2.1, hk.2.2.2⟩⟩, hk.2.1⟩))) hg hat); have n1_ := Aside0.mk (Kd.V_afterv (ok := (fun k_ => (P0_2_ k_ ∨ w.heap.size ≤ k_) ∧ k_ ≠ gb101 ∧ k_ ≠ gb103)) (Kd.pV (Kd.V_mono HO_102002.out (fun _ hk => ⟨⟨hk.1, ⟨hk.2.2.1, hk.2.2.2⟩⟩, hk.2.1⟩))) hg hat); have n2_ := Aside0.mk (blk_grown (g := gb101) (o := .cells #[.int .i64 a0_0, .int .i64 a0_1, .slice (some ad102) l0_2.length c0_2] 24 (0, 0)) (pB BK101.out) hg (Kd.N_ne HO_5.out BK101.out (by decide))); have n3_ := Aside0.mk (Kd.V_afterv (ok := (fun k_ => (P0_2_ k_ ∨ w.heap.size ≤ k_) ∧ k_ ≠ gb101 ∧ k_ ≠ gb103)) (Kd.pV (Kd.V_mono HL102_3.out (fun _ hk => ⟨⟨hk.1, ⟨hk.2.2.1, hk.2.2.2⟩⟩, hk.2.1⟩))) hg hat); have n4_ := Aside0.mk (Kd.V_afterv (ok := (fun k_ => (P0_2_ k_ ∨ w.heap.size ≤ k_) ∧ k_ ≠ gb101 ∧ k_ ≠ gb103)) (Kd.pV (Kd.V_mono HL102_4.out (fun _ hk => ⟨⟨hk.1, ⟨hk.2.2.1, hk.2.2.2⟩⟩, hk.2.1⟩))) hg hat); have n5_ := Aside0.mk (blk_grown (g := gb103) (o := .cells #[.string ((rd_T37 l0_2 x11_1).f0), .int .i64 ((rd_T37 l0_2 x11_1).f1.f0), .int .i64 ((rd_T37 l0_2 x11_1).f1.f1), .slice A102_3 ((rd_T37 l0_2 x11_1).f1.f2).length c102_3, .slice A102_4 ((rd_T37 l0_2 x11_1).f1.f3).length c102_4, .int .i64 ((rd_T37 l0_2 x11_1).f1.f4.f0), .int .i64 ((rd_T37 l0_2 x11_1).f1.f4.f1)] 37 (0, 0)) (pB BK103.out) hg (Kd.N_away HO_5.out (fun _ hk => hk.2.2))); have n6_ := Aside0.mk (hb); have n7_ := Aside0.mk (ho); clear HO_9; clear HO_102002; clear BK101; clear HL102_3; clear HL102_4; clear BK103; clear HB; clear HO_5; have HO_9 := n0_; have HO_102002 := n1_; have BK101 := n2_; have HL102_3 := n3_; have HL102_4 := n4_; have BK103 := n5_; have HB := n6_; have HO106 := n7_; clear n0_ n1_ n2_ n3_ n4_ n5_ n6_ n7_; clear ho hb hg hat))
        go_roundg k1
        case measure => have := HK1.out; omega
        case rel => exact ⟨(y104), (wrap64 (x11_1 + 1)), (by first | rfl | (simp; done) | (simp [*]; done)), H', ⟨by have := HK1.out; omega⟩, ⟨by (with_reducible repeat (first | apply Kd.N_alloc | apply Kd.N_drewN | apply Kd.N_drew)); exact Kd.N_mono HO106.out (fun _ hk => ⟨hk.1, hk.2.1⟩)⟩, ⟨by (with_reducible repeat (first | apply Kd.V_alloc | apply Kd.V_drewN | apply Kd.V_drew)); exact Kd.V_mono HO_9.out (fun _ hk => ⟨hk.1.1, ⟨hk.2, hk.1.2.1⟩⟩)⟩, ⟨by (with_reducible repeat (first | apply Kd.V_alloc | apply Kd.V_drewN | apply Kd.V_drew)); exact Kd.V_mono HO_102002.out (fun _ hk => ⟨hk.1.1, ⟨hk.2, hk.1.2.1⟩⟩)⟩, ⟨by (with_reducible repeat (first | refine blk_drewN ?_ _ | refine blk_drew ?_ | refine blk_alloc ?_ _)); exact BK101.out⟩, ⟨by repeat (first | (with_reducible first | exact HB.out | apply below_alloc | apply pw_below_drewN | apply below_drew1 | refine below_set ?_ GE101.out | refine below_set ?_ GE103.out) | exact HB.out)⟩⟩
       ·
        rw [if_neg c9] at H
        exact absurd H (by simp)
      ·
       rw [if_neg c8] at H
       have c8b0 : (((rd_T37 l0_2 x11_1).f1.f1) == a1) = false := beq_eq_false_iff_ne.mpr c8
       have c8b1 : (((rd_T37 l0_2 x11_1).f1.f1) != a1) = true := bne_iff_ne.mpr c8
       have H' := Aside0.mk H
       clear H
       have p102 : 0 ≤ (x11_1 : Int) := of_decide_eq_true (by first | (with_reducible assumption) | assumption)
       have q102 : x11_1 < (l0_2.length : Int) := of_decide_eq_true (by first | (with_reducible assumption) | assumption)
       obtain ⟨ad102, A102_3, c102_3, A102_4, c102_4, e102, hx102_0, hx102_1, hx102_2, hx102_3, hx102_4, hx102_5, hx102_6, hl102_3, hi102_3, hl102_4, hi102_4⟩ := at_T37 (Kd.V_reads' HO_9.out).2.2 x11_1 p102 q102
       cases e102
       obtain ⟨ce102, hce102, hMe102, hcc102⟩ := Kd.V_get HO_9.out z37 x11_1 p102 (by first | exact q102 | exact of_decide_eq_true (by first | (with_reducible assumption) | assumption) | (have e_ := (Kd.V_reads' HO_9.out).1; omega))
       obtain ⟨ua102_3, uc102_3, ua102_4, uc102_4, rfl, ul102_3, ge102_3, ul102_4, ge102_4⟩ := k37_openF hMe102
       have hv102_3 := hcc102 3 _ rfl
       rw [add_field _ _ 3 (by omega)] at hv102_3
       replace hv102_3 := Option.some.inj (hv102_3.symm.trans hx102_3)
       injection hv102_3 with hva_ hvn_ hvc_
       rw [hva_] at ge102_3
       rw [hvc_] at ul102_3
       have HL102_3 := Aside0.mk (show Kd.V k129 129 _ w.heap.size _ _ ((rd_T37 l0_2 x11_1).f1.f2) from Kd.V_mk ul102_3 ge102_3)
       clear hva_ hvn_ hvc_ ge102_3 ul102_3
       have hv102_4 := hcc102 4 _ rfl
       rw [add_field _ _ 4 (by omega)] at hv102_4
       replace hv102_4 := Option.some.inj (hv102_4.symm.trans hx102_4)
       injection hv102_4 with hva_ hvn_ hvc_
       rw [hva_] at ge102_4
       rw [hvc_] at ul102_4
       have HL102_4 := Aside0.mk (show Kd.V Kd.string 9 _ w.heap.size _ _ ((rd_T37 l0_2 x11_1).f1.f3) from Kd.V_mk ul102_4 ge102_4)
       clear hva_ hvn_ hvc_ ge102_4 ul102_4
       clear hcc102 hce102
       have HR102_3 := Aside0.mk hi102_3
       have HC102_3 := Aside0.mk hl102_3
       clear hi102_3 hl102_3
       have HR102_4 := Aside0.mk hi102_4
       have HC102_4 := Aside0.mk hl102_4
       clear hi102_4 hl102_4
       replace p102 := eq_true p102
       replace q102 := eq_true q102
       go_wp2_with (first | ((with_reducible refine gate_dst (N := 7) rfl ?_); refine box_event ?hg (N := 7) ?hd (cs := #[.string (⟨#[]⟩ : ByteArray), .int .i64 0, .int .i64 0, .slice none 0 0, .slice none 0 0, .int .i64 0, .int .i64 0]) (t := 37) ?hr ?_; (case hd => rfl); (case hg => rfl); (case hr => first | (go_simp; done) | (go_simp; rfl)); intro gb103 hg w16 hbox hb; have n0_ := Aside0.mk (Kd.N_below (Kd.N_elderB (Kd.pN HO_5.out) gb103 (Nat.le_of_eq hg.symm)) hb); have n1_ := Aside0.mk (Kd.V_below (Kd.V_elderB (Kd.pV HO_9.out) gb103 (Nat.le_of_eq hg.symm)) hb); have n2_ := Aside0.mk (Kd.V_below (Kd.V_elderB (Kd.pV HO_102002.out) gb103 (Nat.le_of_eq hg.symm)) hb); have n3_ := Aside0.mk (Kd.V_below (Kd.V_elderB (Kd.pV HL102_3.out) gb103 (Nat.le_of_eq hg.symm)) hb); have n4_ := Aside0.mk (Kd.V_below (Kd.V_elderB (Kd.pV HL102_4.out) gb103 (Nat.le_of_eq hg.symm)) hb); have n5_ := Aside0.mk (blk_below (g := gb101) (o := .cells #[.int .i64 a0_0, .int .i64 a0_1, .slice (some ad102) l0_2.length c0_2] 24 (0, 0)) (pB BK101.out) hb); have n6_ := Aside0.mk (Kd.C_below (by repeat (first | (with_reducible exact HR102_3.out) | (with_reducible refine Kd.C_alloc ?_ _) | (with_reducible refine Kd.C_drewN ?_ _) | (with_reducible refine Kd.C_drew ?_) | exact HR102_3.out)) hb); have n7_ := Aside0.mk (Kd.C_below (by repeat (first | (with_reducible exact HR102_4.out) | (with_reducible refine Kd.C_alloc ?_ _) | (with_reducible refine Kd.C_drewN ?_ _) | (with_reducible refine Kd.C_drew ?_) | exact HR102_4.out)) hb); have n8_ := Aside0.mk (below_step (by repeat (first | (with_reducible first | exact HB.out | apply below_alloc | apply pw_below_drewN | apply below_drew1 | refine below_set ?_ GE101.out) | exact HB.out)) hb); have n9_ := Aside0.mk (hbox); have n10_ := Aside0.mk ((by rw [hg]; exact (below_size (by repeat (first | (with_reducible first | exact HB.out | apply below_alloc | apply pw_below_drewN | apply below_drew1 | refine below_set ?_ GE101.out) | exact HB.out))) : w.heap.size ≤ gb103)); have n11_ := Aside0.mk ((by rw [hg]; exact (below_size (by repeat (first | (with_reducible first | exact HB.out | apply below_alloc | apply pw_below_drewN | apply below_drew1 | refine below_set ?_ GE101.out) | exact HB.out))) : w.heap.size ≤ gb103)); have n12_ := Aside0.mk ((by rw [hg]; exact Nat.ne_of_lt (blk_lt (g := gb101) (o := .cells #[.int .i64 a0_0, .int .i64 a0_1, .slice (some ad102) l0_2.length c0_2] 24 (0, 0)) (pB BK101.out)) : gb101 ≠ gb103)); have n13_ := Aside0.mk ((by rw [hg]; exact Nat.ne_of_gt (blk_lt (g := gb101) (o := .cells #[.int .i64 a0_0, .int .i64 a0_1, .slice (some ad102) l0_2.length c0_2] 24 (0, 0)) (pB BK101.out)) : gb103 ≠ gb101)); clear HO_5; clear HO_9; clear HO_102002; clear HL102_3; clear HL102_4; clear BK101; clear HR102_3; clear HR102_4; clear HB; have HO_5 := n0_; have HO_9 := n1_; have HO_102002 := n2_; have HL102_3 := n3_; have HL102_4 := n4_; have BK101 := n5_; have HR102_3 := n6_; have HR102_4 := n7_; have HB := n8_; have BK103 := n9_; have GW103 := n10_; have GE103 := n11_; have NB101_103 := n12_; have NB103_101 := n13_; clear n0_ n1_ n2_ n3_ n4_ n5_ n6_ n7_ n8_ n9_ n10_ n11_ n12_ n13_; clear hb hbox hg; have hnb17 := NB103_101.out; have hnc17 := NB101_103.out; have hcz18_0 : w16.cell? ⟨gb103, 0, none⟩ = some (.string (⟨#[]⟩ : ByteArray)) := (blk_cell BK103.out 0).trans rfl; have hcz18_1 : w16.cell? ⟨gb103, 1, none⟩ = some (.int .i64 0) := (blk_cell BK103.out 1).trans rfl; have hcz18_2 : w16.cell? ⟨gb103, 2, none⟩ = some (.int .i64 0) := (blk_cell BK103.out 2).trans rfl; have hcz18_3 : w16.cell? ⟨gb103, 3, none⟩ = some (.slice none 0 0) := (blk_cell BK103.out 3).trans rfl; have hcz18_4 : w16.cell? ⟨gb103, 4, none⟩ = some (.slice none 0 0) := (blk_cell BK103.out 4).trans rfl; have hcz18_5 : w16.cell? ⟨gb103, 5, none⟩ = some (.int .i64 0) := (blk_cell BK103.out 5).trans rfl; have hcz18_6 : w16.cell? ⟨gb103, 6, none⟩ = some (.int .i64 0) := (blk_cell BK103.out 6).trans rfl; have hfz18_0 := blk_frozen BK103.out 0; have hfz18_1 := blk_frozen BK103.out 1; have hfz18_2 := blk_frozen BK103.out 2; have hfz18_3 := blk_frozen BK103.out 3; have hfz18_4 := blk_frozen BK103.out 4; have hfz18_5 := blk_frozen BK103.out 5; have hfz18_6 := blk_frozen BK103.out 6))
       go_roundg k1
       case measure => have := HK1.out; omega
       case rel => exact ⟨(x5_1), (wrap64 (x11_1 + 1)), (by first | rfl | (simp; done) | (simp [*]; done)), H', ⟨by have := HK1.out; omega⟩, ⟨by (with_reducible repeat (first | apply Kd.N_alloc | apply Kd.N_drewN | apply Kd.N_drew)); exact Kd.N_mono (Kd.N_far (p := ⟨gb103, 6, none⟩) (Kd.N_far (p := ⟨gb103, 5, none⟩) (Kd.N_far (p := ⟨gb103, 4, none⟩) (Kd.N_far (p := ⟨gb103, 3, none⟩) (Kd.N_far (p := ⟨gb103, 2, none⟩) (Kd.N_far (p := ⟨gb103, 1, none⟩) (Kd.N_far (p := ⟨gb103, 0, none⟩) (Kd.N_mono HO_5.out (fun k_ hk => (⟨hk, hk.2⟩ : _ ∧ k_ ≠ gb103))) (fun _ hk => hk.2) (.string ((rd_T37 l0_2 x11_1).f0))) (fun _ hk => hk.2) (.int .i64 ((rd_T37 l0_2 x11_1).f1.f0))) (fun _ hk => hk.2) (.int .i64 ((rd_T37 l0_2 x11_1).f1.f1))) (fun _ hk => hk.2) (.slice A102_3 ((rd_T37 l0_2 x11_1).f1.f2).length c102_3)) (fun _ hk => hk.2) (.slice A102_4 ((rd_T37 l0_2 x11_1).f1.f3).length c102_4)) (fun _ hk => hk.2) (.int .i64 ((rd_T37 l0_2 x11_1).f1.f4.f0))) (fun _ hk => hk.2) (.int .i64 ((rd_T37 l0_2 x11_1).f1.f4.f1))) (fun _ hk => ⟨hk.1.1.1, hk.1.1.2⟩)⟩, ⟨by (with_reducible repeat (first | apply Kd.V_alloc | apply Kd.V_drewN | apply Kd.V_drew)); exact Kd.V_mono (Kd.V_far (p := ⟨gb103, 6, none⟩) (Kd.V_far (p := ⟨gb103, 5, none⟩) (Kd.V_far (p := ⟨gb103, 4, none⟩) (Kd.V_far (p := ⟨gb103, 3, none⟩) (Kd.V_far (p := ⟨gb103, 2, none⟩) (Kd.V_far (p := ⟨gb103, 1, none⟩) (Kd.V_far (p := ⟨gb103, 0, none⟩) (Kd.V_mono HO_9.out (fun k_ hk => (⟨hk, hk.2⟩ : _ ∧ k_ ≠ gb103))) (fun _ hk => hk.2) (.string ((rd_T37 l0_2 x11_1).f0))) (fun _ hk => hk.2) (.int .i64 ((rd_T37 l0_2 x11_1).f1.f0))) (fun _ hk => hk.2) (.int .i64 ((rd_T37 l0_2 x11_1).f1.f1))) (fun _ hk => hk.2) (.slice A102_3 ((rd_T37 l0_2 x11_1).f1.f2).length c102_3)) (fun _ hk => hk.2) (.slice A102_4 ((rd_T37 l0_2 x11_1).f1.f3).length c102_4)) (fun _ hk => hk.2) (.int .i64 ((rd_T37 l0_2 x11_1).f1.f4.f0))) (fun _ hk => hk.2) (.int .i64 ((rd_T37 l0_2 x11_1).f1.f4.f1))) (fun _ hk => ⟨hk.1.1.1, ⟨hk.1.1.2.1, hk.1.1.2.2⟩⟩)⟩, ⟨by (with_reducible repeat (first | apply Kd.V_alloc | apply Kd.V_drewN | apply Kd.V_drew)); exact Kd.V_mono (Kd.V_far (p := ⟨gb103, 6, none⟩) (Kd.V_far (p := ⟨gb103, 5, none⟩) (Kd.V_far (p := ⟨gb103, 4, none⟩) (Kd.V_far (p := ⟨gb103, 3, none⟩) (Kd.V_far (p := ⟨gb103, 2, none⟩) (Kd.V_far (p := ⟨gb103, 1, none⟩) (Kd.V_far (p := ⟨gb103, 0, none⟩) (Kd.V_mono HO_102002.out (fun k_ hk => (⟨hk, hk.2⟩ : _ ∧ k_ ≠ gb103))) (fun _ hk => hk.2) (.string ((rd_T37 l0_2 x11_1).f0))) (fun _ hk => hk.2) (.int .i64 ((rd_T37 l0_2 x11_1).f1.f0))) (fun _ hk => hk.2) (.int .i64 ((rd_T37 l0_2 x11_1).f1.f1))) (fun _ hk => hk.2) (.slice A102_3 ((rd_T37 l0_2 x11_1).f1.f2).length c102_3)) (fun _ hk => hk.2) (.slice A102_4 ((rd_T37 l0_2 x11_1).f1.f3).length c102_4)) (fun _ hk => hk.2) (.int .i64 ((rd_T37 l0_2 x11_1).f1.f4.f0))) (fun _ hk => hk.2) (.int .i64 ((rd_T37 l0_2 x11_1).f1.f4.f1))) (fun _ hk => ⟨hk.1.1.1, ⟨hk.1.1.2.1, hk.1.1.2.2⟩⟩)⟩, ⟨by (with_reducible repeat (first | refine blk_drewN ?_ _ | refine blk_drew ?_ | refine blk_alloc ?_ _)); refine blk_far ?_ NB101_103.out _; (with_reducible repeat (first | refine blk_drewN ?_ _ | refine blk_drew ?_ | refine blk_alloc ?_ _)); refine blk_far ?_ NB101_103.out _; (with_reducible repeat (first | refine blk_drewN ?_ _ | refine blk_drew ?_ | refine blk_alloc ?_ _)); refine blk_far ?_ NB101_103.out _; (with_reducible repeat (first | refine blk_drewN ?_ _ | refine blk_drew ?_ | refine blk_alloc ?_ _)); refine blk_far ?_ NB101_103.out _; (with_reducible repeat (first | refine blk_drewN ?_ _ | refine blk_drew ?_ | refine blk_alloc ?_ _)); refine blk_far ?_ NB101_103.out _; (with_reducible repeat (first | refine blk_drewN ?_ _ | refine blk_drew ?_ | refine blk_alloc ?_ _)); refine blk_far ?_ NB101_103.out _; (with_reducible repeat (first | refine blk_drewN ?_ _ | refine blk_drew ?_ | refine blk_alloc ?_ _)); refine blk_far ?_ NB101_103.out _; (with_reducible repeat (first | refine blk_drewN ?_ _ | refine blk_drew ?_ | refine blk_alloc ?_ _)); exact BK101.out⟩, ⟨by repeat (first | (with_reducible first | exact HB.out | apply below_alloc | apply pw_below_drewN | apply below_drew1 | refine below_set ?_ GE101.out | refine below_set ?_ GE103.out) | exact HB.out)⟩⟩
     ·
      rw [if_neg c7] at H
      exact absurd H (by simp)
    ·
     rw [if_neg c6] at H
     exact absurd H (by simp)
   ·
    rw [if_neg c5] at H
    have c5b0 : decide (x11_1 < (l0_2.length : Int)) = false := decide_eq_false c5
    clear c5
    obtain rfl := Option.some.inj H
    go_wp2
    go_ret
    exact ⟨_, by first | rfl | (simp [errW_none, errW_some] <;> rfl) | (simp [*, errW_none, errW_some] <;> rfl), by (with_reducible repeat (first | apply Kd.N_alloc | apply Kd.N_drewN | apply Kd.N_drew)); exact Kd.N_mono HO_5.out (fun _ hk => hk.1), by repeat (first | (with_reducible first | exact HB.out | apply below_alloc | apply pw_below_drewN | apply below_drew1 | refine below_set ?_ GE101.out) | exact HB.out)⟩

abbrev SE := S37
def RelE (W : World) (ok : Nat → Prop) (r : Si.ER) (x : SE) : Prop := r.d = x.f0 ∧ r.au = x.f1.f0 ∧ r.ro = x.f1.f1 ∧ r.n3 = x.f1.f2.length ∧ x.f1.f2.length ≤ r.c3 ∧ Kd.F k129 W ok r.A3 x.f1.f2.length x.f1.f2 ∧ r.n4 = x.f1.f3.length ∧ x.f1.f3.length ≤ r.c4 ∧ Kd.F Kd.string W ok r.A4 x.f1.f3.length x.f1.f3 ∧ r.ea = x.f1.f4.f0 ∧ r.eb = x.f1.f4.f1
def RelsE (W : World) (ok : Nat → Prop) : List Si.ER → List SE → Prop
 | [], [] => True
 | r :: rs, x :: xs => RelE W ok r x ∧ RelsE W ok rs xs
 | _, _ => False
theorem RelsE.len {W : World} {ok : Nat → Prop} : ∀ {rs : List Si.ER} {xs : List SE}, RelsE W ok rs xs → rs.length = xs.length
 | [], [], _ => rfl
 | r :: rs, x :: xs, h => by simp [RelsE.len h.2]
 | [], x :: xs, h => h.elim
 | r :: rs, [], h => h.elim
theorem RelsE.get {W : World} {ok : Nat → Prop} : ∀ {rs : List Si.ER} {xs : List SE} (_ : RelsE W ok rs xs) (i : Nat) (r : Si.ER) (x : SE), rs[i]? = some r → xs[i]? = some x → RelE W ok r x
 | [], [], _, i, r, x, h1, _ => by simp at h1
 | r :: rs, x :: xs, h, 0, r', x', h1, h2 => by
  have e1 : r = r' := by simpa using h1
  have e2 : x = x' := by simpa using h2
  subst e1; subst e2
  exact h.1
 | r :: rs, x :: xs, h, i + 1, r', x', h1, h2 => RelsE.get h.2 i r' x' (by simpa using h1) (by simpa using h2)
 | [], x :: xs, h, _, _, _, _, _ => h.elim
 | r :: rs, [], h, _, _, _, _, _ => h.elim
theorem RelE.imp {W W' : World} {ok ok' : Nat → Prop} {r : Si.ER} {x : SE} (h : RelE W ok r x) (hb : Below W.heap.size W W') (ho : ∀ k, ok k → ok' k) : RelE W' ok' r x := by
 obtain ⟨h1, h2, h3, h4, h5, h6, h7, h8, h9, h10, h11⟩ := h
 exact ⟨h1, h2, h3, h4, h5, Kd.F_mono (Kd.F_below h6 hb) ho, h7, h8, Kd.F_mono (Kd.F_below h9 hb) ho, h10, h11⟩
theorem RelsE.imp {W W' : World} {ok ok' : Nat → Prop} (hb : Below W.heap.size W W') (ho : ∀ k, ok k → ok' k) : ∀ {rs : List Si.ER} {xs : List SE}, RelsE W ok rs xs → RelsE W' ok' rs xs
 | [], [], _ => trivial
 | r :: rs, x :: xs, h => ⟨h.1.imp hb ho, RelsE.imp hb ho h.2⟩
 | [], x :: xs, h => h.elim
 | r :: rs, [], h => h.elim
theorem relsE_of {W : World} {ok : Nat → Prop} {ad : Addr} : ∀ (ms : List SE) (k : Nat), (∀ j x, ms[j]? = some x → ∃ r : Si.ER, RelE W ok r x ∧ ∀ (i : Nat) (u : Value), r.cs[i]? = some u → W.cell? (ad.add ((k + j) * 7 + i)) = some u) →
  ∃ rs, RelsE W ok rs ms ∧ ∀ (j : Nat) (r : Si.ER), rs[j]? = some r → ∀ (i : Nat) (u : Value), r.cs[i]? = some u → W.cell? (ad.add ((k + j) * 7 + i)) = some u
 | [], k, _ => ⟨[], trivial, fun j r h => by simp at h⟩
 | m :: ms, k, h => by
  obtain ⟨r, hr, hc⟩ := h 0 m rfl
  obtain ⟨rs, hrs, hcs⟩ := relsE_of (W := W) (ok := ok) (ad := ad) ms (k + 1) (fun j x hx => by
   have := h (j + 1) x (by simpa using hx)
   rw [show k + 1 + j = k + (j + 1) by omega]; exact this)
  refine ⟨r :: rs, ⟨hr, hrs⟩, fun j r' hr' => ?_⟩
  cases j with
  | zero =>
   have e : r = r' := by simpa using hr'
   subst e; exact hc
  | succ j =>
   have := hcs j r' (by simpa using hr')
   rw [show k + 1 + j = k + (j + 1) by omega] at this; exact this
theorem F_relsE {W : World} {ok : Nat → Prop} {A : Option Addr} {ms : List SE} (h : Kd.F k37 W ok A ms.length ms) : ∃ rs, RelsE W ok rs ms ∧ Si.Rowentry W A rs := by
 obtain ⟨_, _, hn⟩ := Kd.F_rows h
 by_cases h0 : 0 < ms.length
 ·
  obtain ⟨ad, rfl, hc⟩ := hn h0
  obtain ⟨rs, hrs, hcs⟩ := relsE_of (W := W) (ok := ok) (ad := ad) ms 0 (fun j x hx => by
   obtain ⟨cs, _, hK, hcell⟩ := hc j x hx
   obtain ⟨A3, c3, A4, c4, rfl, l3, hF3, l4, hF4⟩ := k37_openF hK
   have e3 : (k37).sz = 7 := rfl
   rw [e3] at hcell
   rw [Nat.zero_add]
   exact ⟨⟨x.f0, x.f1.f0, x.f1.f1, A3, x.f1.f2.length, c3, A4, x.f1.f3.length, c4, x.f1.f4.f0, x.f1.f4.f1⟩, ⟨rfl, rfl, rfl, rfl, l3, hF3, rfl, l4, hF4, rfl, rfl⟩, hcell⟩)
  refine ⟨rs, hrs, fun i x hx => ⟨ad, rfl, ?_⟩⟩
  have q := hcs i x hx
  rw [Nat.zero_add] at q
  rw [Si.add_more _ _ _ (by omega), Si.add_more _ _ _ (by omega), Si.add_more _ _ _ (by omega), Si.add_more _ _ _ (by omega), Si.add_more _ _ _ (by omega), Si.add_more _ _ _ (by omega)]
  exact ⟨q 0 _ rfl, q 1 _ rfl, q 2 _ rfl, q 3 _ rfl, q 4 _ rfl, q 5 _ rfl, q 6 _ rfl⟩
 ·
  have e : ms = [] := List.eq_nil_of_length_eq_zero (by omega)
  subst e
  exact ⟨[], trivial, fun i x hx => by simp at hx⟩
theorem first_rel {W : World} {ok : Nat → Prop} (p : Si.ER → Bool) (q : SE → Bool) (hpq : ∀ r x, RelE W ok r x → p r = q x) : ∀ (rs : List Si.ER) (l : List SE), RelsE W ok rs l → (match l.find? q with
  | some x => (Si.firstE p rs).2 = true ∧ RelE W ok (Si.firstE p rs).1 x
  | none => Si.firstE p rs = (Si.zER, false))
 | [], [], _ => rfl
 | r :: rs, x :: xs, h => by
  rw [Si.firstE_cons, List.find?_cons]
  have e := hpq r x h.1
  cases hq : q x with
  | true => rw [hq] at e; rw [if_pos e]; exact ⟨rfl, h.1⟩
  | false => rw [hq] at e; rw [if_neg (by rw [e]; decide)]; exact first_rel p q hpq rs xs h.2
 | [], x :: xs, h => h.elim
 | r :: rs, [], h => h.elim
def dag_Find.f (a0_0 : Int) (a0_1 : Int) (l0_2 : List SE) (a1 : ByteArray) : Option (ByteArray × Int × Int × List (S129) × List ByteArray × Int × Int × Bool) := match l0_2.find? (fun x => x.f0.toList == a1.toList) with
 | some x => some (x.f0, x.f1.f0, x.f1.f1, x.f1.f2, x.f1.f3, x.f1.f4.f0, x.f1.f4.f1, true)
 | none => some ((⟨#[]⟩ : ByteArray), 0, 0, [], [], 0, 0, false)
theorem dag_Find.calls (a0_0 : Int) (a0_1 : Int) (P0_2_ : Nat → Prop) (A0_2 : Option Addr) (c0_2 : Nat) (l0_2 : List (S37)) (a1 : ByteArray) (r1 : ByteArray) (r2 : Int) (r3 : Int) (r4 : List (S129)) (r5 : List ByteArray) (r6 : Int) (r7 : Int) (r8 : Bool) (w : World) (hs0_2 : Kd.V k37 37 w w.heap.size (fun k_ => P0_2_ k_) (.slice A0_2 l0_2.length c0_2) l0_2) (h : dag_Find.f a0_0 a0_1 l0_2 a1 = some (r1, r2, r3, r4, r5, r6, r7, r8)) :
  Calls Try.prog 68 #[.agg #[.int .i64 a0_0, .int .i64 a0_1, .slice A0_2 l0_2.length c0_2], .string a1] w fun e w' => ∃ (v3_ : Value) (v4_ : Value), e = .returned (.tuple #[.agg #[.string r1, .int .i64 r2, .int .i64 r3, v3_, v4_, .int .i64 r6, .int .i64 r7], .bool r8]) ∧ Kd.V k129 129 w' w.heap.size (fun k_ => (P0_2_ k_ ∨ w.heap.size ≤ k_)) v3_ r4 ∧ Kd.V Kd.string 9 w' w.heap.size (fun k_ => (P0_2_ k_ ∨ w.heap.size ≤ k_)) v4_ r5 ∧ Below w.heap.size w w' := by
 obtain ⟨_, _, hF⟩ := Kd.V_at hs0_2
 have hmx := Kd.F_max hF
 obtain ⟨rs, hrs, hrow⟩ := F_relsE hF
 have hc := Si.find_c A0_2 c0_2 rs a0_0 a0_1 a1 w hrow (by rw [hrs.len]; exact hmx)
 have hf := first_rel (fun r : Si.ER => r.d.toList == a1.toList) (fun x : SE => x.f0.toList == a1.toList) (fun r x hr => by rw [hr.1]) rs l0_2 hrs
 rw [hrs.len] at hc
 unfold dag_Find.f at h
 refine hc.mono ?_
 rintro e w' ⟨rfl, hb⟩
 cases hq : l0_2.find? (fun x => x.f0.toList == a1.toList) with
 | some x =>
  rw [hq] at h hf
  dsimp only at h hf
  simp only [Option.some.injEq, Prod.mk.injEq] at h
  obtain ⟨rfl, rfl, rfl, rfl, rfl, rfl, rfl, rfl⟩ := h
  obtain ⟨h1, h2, h3, h4, h5, h6, h7, h8, h9, h10, h11, h12⟩ := hf
  rw [h1]
  generalize (Si.firstE (fun x => x.d.toList == a1.toList) rs).1 = r at h2 h3 h4 h5 h6 h7 h8 h9 h10 h11 h12
  obtain ⟨yd, yau, yro, yA3, yn3, yc3, yA4, yn4, yc4, yea, yeb⟩ := r
  dsimp only at h2 h3 h4 h5 h6 h7 h8 h9 h10 h11 h12
  subst h2 h3 h4 h5 h8 h11 h12
  exact ⟨_, _, rfl, Kd.V_mono (Kd.V_mk h6 (Kd.F_below h7 hb)) (fun k hk => .inl hk), Kd.V_mono (Kd.V_mk h9 (Kd.F_below h10 hb)) (fun k hk => .inl hk), hb⟩
 | none =>
  rw [hq] at h hf
  dsimp only at h hf
  simp only [Option.some.injEq, Prod.mk.injEq] at h
  obtain ⟨rfl, rfl, rfl, rfl, rfl, rfl, rfl, rfl⟩ := h
  rw [hf]
  exact ⟨_, _, rfl, Kd.V_nil _ _ _ _ _, Kd.V_nil _ _ _ _ _, hb⟩

def mkOf (l : List (S54)) : List Si.MS := l.map fun x => (x.f0, x.f1, x.f2)
def mkTo (l : List Si.MS) : List (S54) := l.map fun x => ⟨x.1, x.2.1, x.2.2⟩
theorem mkOf_to (l : List Si.MS) : mkOf (mkTo l) = l := by
 unfold mkOf mkTo
 rw [List.map_map]
 exact List.map_id _
theorem mkOf_length (l : List (S54)) : (mkOf l).length = l.length := List.length_map _
theorem mkF {w : World} {P : Nat → Prop} {A : Option Addr} {l : List (S54)} (h : Kd.F k54 w P A l.length l) : Kd.F Si.kMk w P A (mkOf l).length (mkOf l) := by
 rw [mkOf_length]
 exact Kd.F_imp h (fun W' hC => Kd.C_iso.1 hC)
def order_Fresh.f (l0 : List (S54)) (a1 : Int) (a2 : Int) : Option Bool := some (Si.freshS (mkOf l0) a1 a2)
theorem order_Fresh.calls (A0 : Option Addr) (c0 : Nat) (l0 : List (S54)) (a1 : Int) (a2 : Int) (r : Bool) (w : World) (hr0 : Kd.C k54 w A0 l0.length l0) (hc0 : l0.length ≤ c0) (h : order_Fresh.f l0 a1 a2 = some r) :
  Calls Try.prog 21 #[.slice A0 l0.length c0, .int .i64 a1, .int .i64 a2] w fun e w' => e = .returned (.bool r) ∧ Below w.heap.size w w' := by
 obtain rfl := Option.some.inj h
 have c := Si.fresh_v _ A0 c0 (mkOf l0) a1 a2 w (mkF (Kd.C_F (show Kd.Heap k54 from Kd.heap_iso _ (Kd.heap_pair (Kd.heap_int .i64) (Kd.heap_pair (Kd.heap_int .i64) (Kd.heap_slice 3 (Kd.heap_int .i64))))) hr0)) (by rw [mkOf_length]; exact Kd.C_max hr0)
 rw [mkOf_length] at c
 exact c

def slices_Index_string_string.l0 : Nat → List ByteArray → ByteArray → Int → Int → Option (Int)
 | 0, _, _, _, _ => none
 | k + 1, x0, x1, x7, x8 => if x8 < x7 then (if 0 ≤ x8 then (if x8 < (x0.length : Int) then (if x1.toList = (rdOf ByteArray.empty x0 x8).toList then (some x8) else (slices_Index_string_string.l0 k x0 x1 x7 (wrap64 (x8 + 1)))) else (none)) else (none)) else (some (-1))
def slices_Index_string_string.f (k : Nat) (l0 : List ByteArray) (a1 : ByteArray) : Option (Int) := slices_Index_string_string.l0 k l0 a1 (l0.length : Int) 0
set_option maxHeartbeats 8000000 in
set_option maxRecDepth 100000 in
theorem slices_Index_string_string.calls (k : Nat) (A0 : Option Addr) (c0 : Nat) (l0 : List ByteArray) (a1 : ByteArray) (r : Int) (w : World) (hr0 : Kd.C Kd.string w A0 l0.length l0) (hc0 : l0.length ≤ c0) (h : slices_Index_string_string.f k l0 a1 = some r) :
  Calls Try.prog 79 #[.slice A0 l0.length c0, .string a1] w fun e w' => e = .returned (.int .i64 r) ∧ Drawn0 w w' := by
 have HR0 := Aside0.mk hr0
 have HC0 := Aside0.mk hc0
 clear hr0 hc0
 have H : (slices_Index_string_string.l0 k l0 a1 (l0.length : Int) 0) = some r := h
 clear h
 have H' := Aside0.mk H
 clear H
 go_enter Try.func79, Try.ntmps79
 go_wp2
 go_loopg [8] k (fun kq v8 w' => ∃ (x8_1 : Int), v8 = .int .i64 x8_1 ∧ Aside0 (slices_Index_string_string.l0 kq l0 a1 (l0.length : Int) x8_1 = some r) ∧ Aside0 (kq ≤ k) ∧ Drawn0 w w')
 case atStart => exact ⟨(0), (by first | rfl | (simp; done) | (simp [*]; done)), H', ⟨Nat.le_refl _⟩, by repeat (first | exact Drawn0.refl _ | apply Drawn0.step)⟩
 case round =>
  clear H'
  try clear p2
  obtain ⟨x8_1, rfl, HA, HK1, ⟨m1, rfl⟩⟩ := hrel
  cases gk with
  | zero => exact absurd HA.out (by simp [slices_Index_string_string.l0])
  | succ k1 =>
   have H := HA.out
   clear HA
   simp only [slices_Index_string_string.l0] at H
   by_cases c3 : x8_1 < (l0.length : Int)
   ·
    rw [if_pos c3] at H
    have c3b0 : decide (x8_1 < (l0.length : Int)) = true := decide_eq_true c3
    clear c3
    by_cases c4 : 0 ≤ x8_1
    ·
     rw [if_pos c4] at H
     have c4b0 : decide (0 ≤ x8_1) = true := decide_eq_true c4
     clear c4
     by_cases c5 : x8_1 < (l0.length : Int)
     ·
      rw [if_pos c5] at H
      have c5b0 : decide (x8_1 < (l0.length : Int)) = true := decide_eq_true c5
      clear c5
      by_cases c6 : a1.toList = (rdOf ByteArray.empty l0 x8_1).toList
      ·
       rw [if_pos c6] at H
       have c6b0 : (a1.toList == (rdOf ByteArray.empty l0 x8_1).toList) = true := beq_iff_eq.mpr c6
       have c6b1 : (a1.toList != (rdOf ByteArray.empty l0 x8_1).toList) = false := bne_eq_false_iff_eq.mpr c6
       clear c6
       obtain rfl := Option.some.inj H
       have p107 : 0 ≤ (x8_1 : Int) := of_decide_eq_true (by first | (with_reducible assumption) | assumption)
       have q107 : x8_1 < (l0.length : Int) := of_decide_eq_true (by first | (with_reducible assumption) | assumption)
       obtain ⟨ad107, e107, hx107_0⟩ := Kd.at_string HR0.out x8_1 p107 q107
       cases e107
       replace p107 := eq_true p107
       replace q107 := eq_true q107
       go_wp2
       go_ret
       exact ⟨by first | rfl | (simp; done) | (simp [*]; done), by repeat (first | exact Drawn0.refl _ | apply Drawn0.step)⟩
      ·
       rw [if_neg c6] at H
       have c6b0 : (a1.toList == (rdOf ByteArray.empty l0 x8_1).toList) = false := beq_eq_false_iff_ne.mpr c6
       have c6b1 : (a1.toList != (rdOf ByteArray.empty l0 x8_1).toList) = true := bne_iff_ne.mpr c6
       have H' := Aside0.mk H
       clear H
       have p107 : 0 ≤ (x8_1 : Int) := of_decide_eq_true (by first | (with_reducible assumption) | assumption)
       have q107 : x8_1 < (l0.length : Int) := of_decide_eq_true (by first | (with_reducible assumption) | assumption)
       obtain ⟨ad107, e107, hx107_0⟩ := Kd.at_string HR0.out x8_1 p107 q107
       cases e107
       replace p107 := eq_true p107
       replace q107 := eq_true q107
       go_wp2
       go_roundg k1
       case measure => have := HK1.out; omega
       case rel => exact ⟨(wrap64 (x8_1 + 1)), (by first | rfl | (simp; done) | (simp [*]; done)), H', ⟨by have := HK1.out; omega⟩, by repeat (first | exact Drawn0.refl _ | apply Drawn0.step)⟩
     ·
      rw [if_neg c5] at H
      exact absurd H (by simp)
    ·
     rw [if_neg c4] at H
     exact absurd H (by simp)
   ·
    rw [if_neg c3] at H
    have c3b0 : decide (x8_1 < (l0.length : Int)) = false := decide_eq_false c3
    clear c3
    obtain rfl := Option.some.inj H
    go_wp2
    go_ret
    exact ⟨by first | rfl | (simp; done) | (simp [*]; done), by repeat (first | exact Drawn0.refl _ | apply Drawn0.step)⟩

def slices_Contains_string_string.f (k : Nat) (l0 : List ByteArray) (a1 : ByteArray) : Option (Bool) := (slices_Index_string_string.f k l0 a1).bind fun t108 => (some (decide (t108 ≥ 0)))
set_option maxHeartbeats 8000000 in
set_option maxRecDepth 100000 in
theorem slices_Contains_string_string.calls (k : Nat) (A0 : Option Addr) (c0 : Nat) (l0 : List ByteArray) (a1 : ByteArray) (r : Bool) (w : World) (hr0 : Kd.C Kd.string w A0 l0.length l0) (hc0 : l0.length ≤ c0) (h : slices_Contains_string_string.f k l0 a1 = some r) :
  Calls Try.prog 53 #[.slice A0 l0.length c0, .string a1] w fun e w' => e = .returned (.bool r) ∧ Drawn0 w w' := by
 have HR0 := Aside0.mk hr0
 have HC0 := Aside0.mk hc0
 clear hr0 hc0
 have H : ((slices_Index_string_string.f k l0 a1).bind fun t108 => (some (decide (t108 ≥ 0)))) = some r := h
 clear h
 replace H := Option.bind_eq_some_iff.mp H
 obtain ⟨t108, A30, H⟩ := H
 replace H : (some (decide (t108 ≥ 0))) = some r := H
 have A3 := Aside0.mk A30
 clear A30
 obtain rfl := Option.some.inj H
 go_enter Try.func53, Try.ntmps53
 go_wp2_with (first | ((with_reducible refine gate_callee (f := 79) rfl ?_); refine goesL_ (some 7) rfl rfl Try.func79 (by kernel_rfl) rfl #[.slice A0 l0.length c0, .string a1] rfl (by (try simp only [List.map_toArray, List.map_cons, List.map_nil]); first | done | rfl | (simp only [List.length_drop, List.length_take]; rfl)) ?_; (with_reducible refine (slices_Index_string_string.calls k _ _ l0 a1 t108 _ ?side1 ?side2 A3.out).mono ?_); (case side1 => repeat (first | exact HR0.out | (with_reducible refine Kd.C_alloc ?_ _) | (with_reducible refine Kd.C_drewN ?_ _) | (with_reducible refine Kd.C_drew ?_))); (case side2 => exact HC0.out); rintro e w' ⟨rfl, ⟨nd, rfl⟩⟩; refine ⟨_, rfl, ?_⟩))
 go_ret
 exact ⟨by first | rfl | (simp; done) | (simp [*]; done), by repeat (first | exact Drawn0.refl _ | apply Drawn0.step)⟩

def order_Note.f (l0 : List (S54)) (a1 : Int) (a2 : Int) : Option (List (S54)) := if l0.length * 40 + 40 ≤ 140737488355328 ∧ (Si.ofS (mkOf l0) a1).1.2.2.length * 8 + 8 ≤ 140737488355328 then some (mkTo (Si.noteS (mkOf l0) a1 a2)) else none
theorem order_Note.calls (P0_ : Nat → Prop) (A0 : Option Addr) (c0 : Nat) (l0 : List (S54)) (a1 : Int) (a2 : Int) (r : List (S54)) (w : World) (hs0 : Kd.V k54 54 w w.heap.size (fun k_ => P0_ k_) (.slice A0 l0.length c0) l0) (h : order_Note.f l0 a1 a2 = some r) :
  Calls Try.prog 19 #[.slice A0 l0.length c0, .int .i64 a1, .int .i64 a2] w fun e w' => ∃ v0_ : Value, e = .returned (v0_) ∧ Kd.V k54 54 w' w.heap.size (fun k_ => (P0_ k_ ∨ w.heap.size ≤ k_)) v0_ r ∧ Below w.heap.size w w' := by
 unfold order_Note.f at h
 split at h
 ·
  rename_i hb
  obtain rfl := Option.some.inj h
  obtain ⟨_, hc, hF⟩ := Kd.V_at hs0
  have hv : Kd.V Si.kMk 54 w w.heap.size P0_ (.slice A0 (mkOf l0).length c0) (mkOf l0) := ⟨A0, c0, rfl, by rw [mkOf_length]; exact hc, mkF hF⟩
  have c := Si.note_v P0_ A0 c0 (mkOf l0) a1 a2 w hv (by rw [mkOf_length]; exact hb.1) hb.2
  rw [mkOf_length] at c
  refine c.mono ?_
  rintro e w' ⟨v, rfl, h1, h2⟩
  refine ⟨v, rfl, ?_, h2⟩
  obtain ⟨A, c1, rfl, hc1, hF1⟩ := h1
  have e : (mkTo (Si.noteS (mkOf l0) a1 a2)).length = (Si.noteS (mkOf l0) a1 a2).length := List.length_map _
  refine ⟨A, c1, by rw [e], by rw [e]; exact hc1, ?_⟩
  rw [e]
  refine Kd.F_imp hF1 (fun W' hC => Kd.C_iso.2 ?_)
  show Si.kMk.C W' A _ (mkOf (mkTo (Si.noteS (mkOf l0) a1 a2)))
  rw [mkOf_to]
  exact hC
 ·
  cases h

mutual
def order_right.j0 : Nat → Bool → Int → Int → List Int → Option (Bool)
 | 0, _, _, _, _ => none
 | k + 1, x17, x110000, x110001, x110002 => if x17 = true then (some false) else (order_right.l0 k x110002 (x110002.length : Int) 0 x110000 x110001 x110002)
def order_right.l0 : Nat → List Int → Int → Int → Int → Int → List Int → Option (Bool)
 | 0, _, _, _, _, _, _ => none
 | k + 1, x19, x20, x21, x110000, x110001, x110002 => if x21 < x20 then (if 0 ≤ x21 then (if x21 < (x19.length : Int) then (if (wrap64 ((rd x19 x21) - x110001)) ≤ 1 then (some false) else (if (wrap64 ((rd x19 x21) - x110001)) > 8 then (some false) else (if x21 > 0 then (if 0 ≤ (wrap64 (x21 - 1)) then (if (wrap64 (x21 - 1)) < (x110002.length : Int) then (if (rd x110002 (wrap64 (x21 - 1))) ≥ (rd x19 x21) then (some false) else (order_right.l0 k x19 x20 (wrap64 (x21 + 1)) x110000 x110001 x110002)) else (none)) else (none)) else (order_right.l0 k x19 x20 (wrap64 (x21 + 1)) x110000 x110001 x110002)))) else (none)) else (none)) else (some true)
end
def order_right.f (k : Nat) (a0_0 : Int) (a0_1 : Int) (l0_2 : List Int) : Option (Bool) := if a0_0 < 1 then (order_right.j0 k true a0_0 a0_1 l0_2) else (if a0_0 > 64 then (order_right.j0 k true a0_0 a0_1 l0_2) else (order_right.j0 k (decide (a0_1 < 0)) a0_0 a0_1 l0_2))
theorem order_right.mono_l : ∀ k, (∀ y0 y1 y2 y3, LeO (order_right.j0 k y0 y1 y2 y3) (order_right.j0 (k + 1) y0 y1 y2 y3)) ∧ (∀ y0 y1 y2 y3 y4 y5, LeO (order_right.l0 k y0 y1 y2 y3 y4 y5) (order_right.l0 (k + 1) y0 y1 y2 y3 y4 y5))
 | 0 => ⟨fun _ _ _ _ r h => by simp [order_right.j0] at h, fun _ _ _ _ _ _ r h => by simp [order_right.l0] at h⟩
 | k + 1 => by
  obtain ⟨ih0, ih1⟩ := order_right.mono_l k
  refine ⟨?_, ?_⟩
  ·
   intro y0 y1 y2 y3
   unfold order_right.j0
   repeat' first
   | (with_reducible exact ih0 _ _ _ _)
   | (with_reducible exact ih1 _ _ _ _ _ _)
   | (with_reducible exact LeO.refl _)
   | (with_reducible exact LeO.none _)
   | (with_reducible refine LeO.ite ?_ ?_)
   | (with_reducible refine LeO.bind ?_ (fun _ => ?_))
   | exact ih0 _ _ _ _
   | exact ih1 _ _ _ _ _ _
   | exact LeO.none _
   | refine LeO.ite ?_ ?_
   | refine LeO.bind ?_ (fun _ => ?_)
  ·
   intro y0 y1 y2 y3 y4 y5
   unfold order_right.l0
   repeat' first
   | (with_reducible exact ih0 _ _ _ _)
   | (with_reducible exact ih1 _ _ _ _ _ _)
   | (with_reducible exact LeO.refl _)
   | (with_reducible exact LeO.none _)
   | (with_reducible refine LeO.ite ?_ ?_)
   | (with_reducible refine LeO.bind ?_ (fun _ => ?_))
   | exact ih0 _ _ _ _
   | exact ih1 _ _ _ _ _ _
   | exact LeO.none _
   | refine LeO.ite ?_ ?_
   | refine LeO.bind ?_ (fun _ => ?_)
theorem order_right.mono : ∀ a0 a1 a2 k, LeO (order_right.f k a0 a1 a2) (order_right.f (k + 1) a0 a1 a2) := by
 intro a0 a1 a2 k
 obtain ⟨ih0, ih1⟩ := order_right.mono_l k
 unfold order_right.f
 repeat' first
   | (with_reducible exact ih0 _ _ _ _)
   | (with_reducible exact ih1 _ _ _ _ _ _)
   | (with_reducible exact LeO.refl _)
   | (with_reducible exact LeO.none _)
   | (with_reducible refine LeO.ite ?_ ?_)
   | (with_reducible refine LeO.bind ?_ (fun _ => ?_))
   | exact ih0 _ _ _ _
   | exact ih1 _ _ _ _ _ _
   | exact LeO.none _
   | refine LeO.ite ?_ ?_
   | refine LeO.bind ?_ (fun _ => ?_)
set_option maxHeartbeats 8000000 in
set_option maxRecDepth 100000 in
theorem order_right.calls (k : Nat) (a0_0 : Int) (a0_1 : Int) (A0_2 : Option Addr) (c0_2 : Nat) (l0_2 : List Int) (r : Bool) (w : World) (hr0_2 : Kd.C (Kd.int .i64) w A0_2 l0_2.length l0_2) (hc0_2 : l0_2.length ≤ c0_2) (h : order_right.f k a0_0 a0_1 l0_2 = some r) :
  Calls Try.prog 51 #[.agg #[.int .i64 a0_0, .int .i64 a0_1, .slice A0_2 l0_2.length c0_2]] w fun e w' => e = .returned (.bool r) ∧ Below w.heap.size w w' := by
 have hu54 := Try.underlying54
 have HR0_2 := Aside0.mk hr0_2
 have HC0_2 := Aside0.mk hc0_2
 clear hr0_2 hc0_2
 have HB := Aside0.mk (Below.refl w.heap.size w)
 have H : (if a0_0 < 1 then (order_right.j0 k true a0_0 a0_1 l0_2) else (if a0_0 > 64 then (order_right.j0 k true a0_0 a0_1 l0_2) else (order_right.j0 k (decide (a0_1 < 0)) a0_0 a0_1 l0_2))) = some r := h
 clear h
 have HC2 := Aside0.mk H
 clear H
 go_enter Try.func51, Try.ntmps51
 go_upto_region 1 with (first | ((with_reducible refine gate_dst (N := 1) rfl ?_); refine box_event ?hg (N := 1) ?hd (cs := #[.int .i64 a0_0, .int .i64 a0_1, .slice A0_2 l0_2.length c0_2]) (t := 54) ?hr ?_; (case hd => rfl); (case hg => rfl); (case hr => first | (go_simp; done) | (go_simp; rfl)); intro gb109 hg w3 hbox hb; have n0_ := Aside0.mk (below_step (by repeat (first | (with_reducible first | exact HB.out | apply below_alloc | apply pw_below_drewN | apply below_drew1) | exact HB.out)) hb); have n1_ := Aside0.mk (hbox); have n2_ := Aside0.mk ((by rw [hg]; exact (below_size (by repeat (first | (with_reducible first | exact HB.out | apply below_alloc | apply pw_below_drewN | apply below_drew1) | exact HB.out))) : w.heap.size ≤ gb109)); have n3_ := Aside0.mk ((by rw [hg]; exact (below_size (by repeat (first | (with_reducible first | exact HB.out | apply below_alloc | apply pw_below_drewN | apply below_drew1) | exact HB.out))) : w.heap.size ≤ gb109)); clear HB; have HB := n0_; have BK109 := n1_; have GW109 := n2_; have GE109 := n3_; clear n0_ n1_ n2_ n3_; clear hb hbox hg))
 (try simp only [Act.put, List.setIfInBounds_toArray, List.set_cons_zero, List.set_cons_succ])
 go_cut [17] (fun v17 wc => ∃ (kq : Nat) (x17_1 : Bool), v17 = .bool x17_1 ∧ Aside0 (order_right.j0 kq x17_1 a0_0 a0_1 l0_2 = some r) ∧ Aside0 (kq ≤ k) ∧ Aside0 (wc.heap[gb109]? = some (.cells #[.int .i64 a0_0, .int .i64 a0_1, (.slice A0_2 l0_2.length c0_2)] 54 (0, 0))) ∧ Aside0 (Below w.heap.size w wc))
 case first =>
  have H := HC2.out
  clear HC2
  by_cases c4 : a0_0 < 1
  ·
   rw [if_pos c4] at H
   have c4b0 : decide (a0_0 < 1) = true := decide_eq_true c4
   clear c4
   (first | rw [c4b0] | (simp only [i64_w, i32_w]; rw [c4b0]) | skip)
   have H' := Aside0.mk H
   clear H
   have hcz5_0 : w3.cell? ⟨gb109, 0, none⟩ = some (.int .i64 a0_0) := (blk_cell BK109.out 0).trans rfl
   have hcz5_1 : w3.cell? ⟨gb109, 1, none⟩ = some (.int .i64 a0_1) := (blk_cell BK109.out 1).trans rfl
   have hcz5_2 : w3.cell? ⟨gb109, 2, none⟩ = some (.slice A0_2 l0_2.length c0_2) := (blk_cell BK109.out 2).trans rfl
   have hfz5_0 := blk_frozen BK109.out 0
   have hfz5_1 := blk_frozen BK109.out 1
   have hfz5_2 := blk_frozen BK109.out 2
   go_wp2
   go_meet
   case rel => exact ⟨_, (true), (by first | rfl | (simp; done) | (simp [*]; done)), H', ⟨by first | omega | exact Nat.le_refl _⟩, ⟨by (with_reducible repeat (first | refine blk_drewN ?_ _ | refine blk_drew ?_ | refine blk_alloc ?_ _)); exact BK109.out⟩, ⟨by repeat (first | (with_reducible first | exact HB.out | apply below_alloc | apply pw_below_drewN | apply below_drew1 | refine below_set ?_ GE109.out) | exact HB.out)⟩⟩
  ·
   rw [if_neg c4] at H
   have c4b0 : decide (a0_0 < 1) = false := decide_eq_false c4
   clear c4
   (first | rw [c4b0] | (simp only [i64_w, i32_w]; rw [c4b0]) | skip)
   by_cases c6 : a0_0 > 64
   ·
    rw [if_pos c6] at H
    have c6b0 : decide (64 < a0_0) = true := decide_eq_true c6
    clear c6
    have H' := Aside0.mk H
    clear H
    have hcz7_0 : w3.cell? ⟨gb109, 0, none⟩ = some (.int .i64 a0_0) := (blk_cell BK109.out 0).trans rfl
    have hcz7_1 : w3.cell? ⟨gb109, 1, none⟩ = some (.int .i64 a0_1) := (blk_cell BK109.out 1).trans rfl
    have hcz7_2 : w3.cell? ⟨gb109, 2, none⟩ = some (.slice A0_2 l0_2.length c0_2) := (blk_cell BK109.out 2).trans rfl
    have hfz7_0 := blk_frozen BK109.out 0
    have hfz7_1 := blk_frozen BK109.out 1
    have hfz7_2 := blk_frozen BK109.out 2
    go_wp2
    go_meet
    case rel => exact ⟨_, (true), (by first | rfl | (simp; done) | (simp [*]; done)), H', ⟨by first | omega | exact Nat.le_refl _⟩, ⟨by (with_reducible repeat (first | refine blk_drewN ?_ _ | refine blk_drew ?_ | refine blk_alloc ?_ _)); exact BK109.out⟩, ⟨by repeat (first | (with_reducible first | exact HB.out | apply below_alloc | apply pw_below_drewN | apply below_drew1 | refine below_set ?_ GE109.out) | exact HB.out)⟩⟩
   ·
    rw [if_neg c6] at H
    have c6b0 : decide (64 < a0_0) = false := decide_eq_false c6
    clear c6
    have H' := Aside0.mk H
    clear H
    have hcz8_0 : w3.cell? ⟨gb109, 0, none⟩ = some (.int .i64 a0_0) := (blk_cell BK109.out 0).trans rfl
    have hcz8_1 : w3.cell? ⟨gb109, 1, none⟩ = some (.int .i64 a0_1) := (blk_cell BK109.out 1).trans rfl
    have hcz8_2 : w3.cell? ⟨gb109, 2, none⟩ = some (.slice A0_2 l0_2.length c0_2) := (blk_cell BK109.out 2).trans rfl
    have hfz8_0 := blk_frozen BK109.out 0
    have hfz8_1 := blk_frozen BK109.out 1
    have hfz8_2 := blk_frozen BK109.out 2
    go_wp2
    go_meet
    case rel => exact ⟨_, (decide (a0_1 < 0)), (by first | rfl | (simp; done) | (simp [*]; done)), H', ⟨by first | omega | exact Nat.le_refl _⟩, ⟨by (with_reducible repeat (first | refine blk_drewN ?_ _ | refine blk_drew ?_ | refine blk_alloc ?_ _)); exact BK109.out⟩, ⟨by repeat (first | (with_reducible first | exact HB.out | apply below_alloc | apply pw_below_drewN | apply below_drew1 | refine below_set ?_ GE109.out) | exact HB.out)⟩⟩
 case rest =>
  clear HC2
  try clear p2
  try clear c4
  try clear c4b0
  try clear c5
  try clear c6
  try clear c6b0
  try clear hcz5_0
  try clear hcz5_1
  try clear hcz5_2
  try clear hcz7_0
  try clear hcz7_1
  try clear hcz7_2
  try clear hcz8_0
  try clear hcz8_1
  try clear hcz8_2
  try clear hfz5_0
  try clear hfz5_1
  try clear hfz5_2
  try clear hfz7_0
  try clear hfz7_1
  try clear hfz7_2
  try clear hfz8_0
  try clear hfz8_1
  try clear hfz8_2
  obtain ⟨kq, x17_1, rfl, HA, HJ1, BK109, HB⟩ := hcut
  cases kq with
  | zero => exact absurd HA.out (by simp [order_right.j0])
  | succ kj1 =>
   have H := HA.out
   clear HA
   simp only [order_right.j0] at H
   by_cases c9 : x17_1 = true
   ·
    subst c9
    have H1 : (some false) = some r := by rw [if_pos rfl] at H; exact H
    clear H
    have H := H1
    clear H1
    obtain rfl := Option.some.inj H
    go_wp2
    go_ret
    exact ⟨by first | rfl | (simp [errW_none, errW_some] <;> rfl) | (simp [*, errW_none, errW_some] <;> rfl), by repeat (first | (with_reducible first | exact HB.out | apply below_alloc | apply pw_below_drewN | apply below_drew1 | refine below_set ?_ GE109.out) | exact HB.out)⟩
   ·
    replace c9 := Bool.eq_false_iff.mpr c9
    subst c9
    have H1 : (order_right.l0 kj1 l0_2 (l0_2.length : Int) 0 a0_0 a0_1 l0_2) = some r := by rw [if_neg (show ¬ (false = true) by decide)] at H; exact H
    clear H
    have H := H1
    clear H1
    have H' := Aside0.mk H
    clear H
    have hcz10_0 : wc.cell? ⟨gb109, 0, none⟩ = some (.int .i64 a0_0) := (blk_cell BK109.out 0).trans rfl
    have hcz10_1 : wc.cell? ⟨gb109, 1, none⟩ = some (.int .i64 a0_1) := (blk_cell BK109.out 1).trans rfl
    have hcz10_2 : wc.cell? ⟨gb109, 2, none⟩ = some (.slice A0_2 l0_2.length c0_2) := (blk_cell BK109.out 2).trans rfl
    have hfz10_0 := blk_frozen BK109.out 0
    have hfz10_1 := blk_frozen BK109.out 1
    have hfz10_2 := blk_frozen BK109.out 2
    go_wp2
    go_loopg [21] kj1 (fun kq v21 w' => ∃ (x21_2 : Int), v21 = .int .i64 x21_2 ∧ Aside0 (order_right.l0 kq l0_2 (l0_2.length : Int) x21_2 a0_0 a0_1 l0_2 = some r) ∧ Aside0 (kq ≤ kj1) ∧ Aside0 (w'.heap[gb109]? = some (.cells #[.int .i64 a0_0, .int .i64 a0_1, (.slice A0_2 l0_2.length c0_2)] 54 (0, 0))) ∧ Aside0 (Below w.heap.size w w'))
    case atStart => exact ⟨(0), (by first | rfl | (simp; done) | (simp [*]; done)), H', ⟨Nat.le_refl _⟩, ⟨by (with_reducible repeat (first | refine blk_drewN ?_ _ | refine blk_drew ?_ | refine blk_alloc ?_ _)); exact BK109.out⟩, ⟨by repeat (first | (with_reducible first | exact HB.out | apply below_alloc | apply pw_below_drewN | apply below_drew1 | refine below_set ?_ GE109.out) | exact HB.out)⟩⟩
    case round =>
     clear H'
     try clear p2
     try clear c4
     try clear c4b0
     try clear c5
     try clear c6
     try clear c6b0
     try clear c9
     try clear hcz10_0
     try clear hcz10_1
     try clear hcz10_2
     try clear hcz5_0
     try clear hcz5_1
     try clear hcz5_2
     try clear hcz7_0
     try clear hcz7_1
     try clear hcz7_2
     try clear hcz8_0
     try clear hcz8_1
     try clear hcz8_2
     try clear hfz10_0
     try clear hfz10_1
     try clear hfz10_2
     try clear hfz5_0
     try clear hfz5_1
     try clear hfz5_2
     try clear hfz7_0
     try clear hfz7_1
     try clear hfz7_2
     try clear hfz8_0
     try clear hfz8_1
     try clear hfz8_2
     try clear p2
     obtain ⟨x21_2, rfl, HA, HK2, BK109, HB⟩ := hrel
     cases gk with
     | zero => exact absurd HA.out (by simp [order_right.l0])
     | succ k2 =>
      have H := HA.out
      clear HA
      simp only [order_right.l0] at H
      by_cases c11 : x21_2 < (l0_2.length : Int)
      ·
       rw [if_pos c11] at H
       have c11b0 : decide (x21_2 < (l0_2.length : Int)) = true := decide_eq_true c11
       clear c11
       by_cases c12 : 0 ≤ x21_2
       ·
        rw [if_pos c12] at H
        have c12b0 : decide (0 ≤ x21_2) = true := decide_eq_true c12
        clear c12
        by_cases c13 : x21_2 < (l0_2.length : Int)
        ·
         rw [if_pos c13] at H
         have c13b0 : decide (x21_2 < (l0_2.length : Int)) = true := decide_eq_true c13
         clear c13
         by_cases c14 : (wrap64 ((rd l0_2 x21_2) - a0_1)) ≤ 1
         ·
          rw [if_pos c14] at H
          have c14b0 : decide ((wrap64 ((rd l0_2 x21_2) - a0_1)) ≤ 1) = true := decide_eq_true c14
          clear c14
          obtain rfl := Option.some.inj H
          have p110 : 0 ≤ (x21_2 : Int) := of_decide_eq_true (by first | (with_reducible assumption) | assumption)
          have q110 : x21_2 < (l0_2.length : Int) := of_decide_eq_true (by first | (with_reducible assumption) | assumption)
          obtain ⟨ad110, e110, hx110_0⟩ := Kd.at_int HR0_2.out x21_2 p110 q110
          cases e110
          replace hx110_0 := (HB.out.cell (World.block_lt_of_cell? w _ hx110_0)).trans hx110_0
          replace p110 := eq_true p110
          replace q110 := eq_true q110
          have hcz15_0 : wr.cell? ⟨gb109, 0, none⟩ = some (.int .i64 a0_0) := (blk_cell BK109.out 0).trans rfl
          have hcz15_1 : wr.cell? ⟨gb109, 1, none⟩ = some (.int .i64 a0_1) := (blk_cell BK109.out 1).trans rfl
          have hcz15_2 : wr.cell? ⟨gb109, 2, none⟩ = some (.slice (some ad110) l0_2.length c0_2) := (blk_cell BK109.out 2).trans rfl
          have hfz15_0 := blk_frozen BK109.out 0
          have hfz15_1 := blk_frozen BK109.out 1
          have hfz15_2 := blk_frozen BK109.out 2
          go_wp2
          go_ret
          exact ⟨by first | rfl | (simp [errW_none, errW_some] <;> rfl) | (simp [*, errW_none, errW_some] <;> rfl), by repeat (first | (with_reducible first | exact HB.out | apply below_alloc | apply pw_below_drewN | apply below_drew1 | refine below_set ?_ GE109.out) | exact HB.out)⟩
         ·
          rw [if_neg c14] at H
          have c14b0 : decide ((wrap64 ((rd l0_2 x21_2) - a0_1)) ≤ 1) = false := decide_eq_false c14
          clear c14
          by_cases c16 : (wrap64 ((rd l0_2 x21_2) - a0_1)) > 8
          ·
           rw [if_pos c16] at H
           have c16b0 : decide (8 < (wrap64 ((rd l0_2 x21_2) - a0_1))) = true := decide_eq_true c16
           clear c16
           obtain rfl := Option.some.inj H
           have p110 : 0 ≤ (x21_2 : Int) := of_decide_eq_true (by first | (with_reducible assumption) | assumption)
           have q110 : x21_2 < (l0_2.length : Int) := of_decide_eq_true (by first | (with_reducible assumption) | assumption)
           obtain ⟨ad110, e110, hx110_0⟩ := Kd.at_int HR0_2.out x21_2 p110 q110
           cases e110
           replace hx110_0 := (HB.out.cell (World.block_lt_of_cell? w _ hx110_0)).trans hx110_0
           replace p110 := eq_true p110
           replace q110 := eq_true q110
           have hcz17_0 : wr.cell? ⟨gb109, 0, none⟩ = some (.int .i64 a0_0) := (blk_cell BK109.out 0).trans rfl
           have hcz17_1 : wr.cell? ⟨gb109, 1, none⟩ = some (.int .i64 a0_1) := (blk_cell BK109.out 1).trans rfl
           have hcz17_2 : wr.cell? ⟨gb109, 2, none⟩ = some (.slice (some ad110) l0_2.length c0_2) := (blk_cell BK109.out 2).trans rfl
           have hfz17_0 := blk_frozen BK109.out 0
           have hfz17_1 := blk_frozen BK109.out 1
           have hfz17_2 := blk_frozen BK109.out 2
           go_wp2
           go_ret
           exact ⟨by first | rfl | (simp [errW_none, errW_some] <;> rfl) | (simp [*, errW_none, errW_some] <;> rfl), by repeat (first | (with_reducible first | exact HB.out | apply below_alloc | apply pw_below_drewN | apply below_drew1 | refine below_set ?_ GE109.out) | exact HB.out)⟩
          ·
           rw [if_neg c16] at H
           have c16b0 : decide (8 < (wrap64 ((rd l0_2 x21_2) - a0_1))) = false := decide_eq_false c16
           clear c16
           by_cases c18 : x21_2 > 0
           ·
            rw [if_pos c18] at H
            have c18b0 : decide (0 < x21_2) = true := decide_eq_true c18
            clear c18
            obtain ⟨ji19, hji19⟩ : ∃ j_ : Int, (wrap64 (x21_2 - 1)) = j_ := ⟨_, rfl⟩
            replace H : (if 0 ≤ (ji19) then (if (ji19) < (l0_2.length : Int) then (if (rd l0_2 (ji19)) ≥ (rd l0_2 x21_2) then (some false) else (order_right.l0 k2 l0_2 (l0_2.length : Int) (wrap64 (x21_2 + 1)) a0_0 a0_1 l0_2)) else (none)) else (none)) = some r := by first | (rw [hji19] at H; exact H) | (simp only [hji19] at H ⊢; exact H)
            have hji19w : (IntKind.i64.wrap (x21_2 - 1)) = ji19 := (i64_w _).trans hji19
            by_cases c20 : 0 ≤ (ji19)
            ·
             rw [if_pos c20] at H
             have c20b0 : decide (0 ≤ (ji19)) = true := decide_eq_true c20
             clear c20
             by_cases c21 : (ji19) < (l0_2.length : Int)
             ·
              rw [if_pos c21] at H
              have c21b0 : decide ((ji19) < (l0_2.length : Int)) = true := decide_eq_true c21
              clear c21
              by_cases c22 : (rd l0_2 (ji19)) ≥ (rd l0_2 x21_2)
              ·
               rw [if_pos c22] at H
               have c22b0 : decide ((rd l0_2 x21_2) ≤ (rd l0_2 (ji19))) = true := decide_eq_true c22
               clear c22
               obtain rfl := Option.some.inj H
               have p110 : 0 ≤ (x21_2 : Int) := of_decide_eq_true (by first | (with_reducible assumption) | assumption)
               have q110 : x21_2 < (l0_2.length : Int) := of_decide_eq_true (by first | (with_reducible assumption) | assumption)
               obtain ⟨ad110, e110, hx110_0⟩ := Kd.at_int HR0_2.out x21_2 p110 q110
               cases e110
               replace hx110_0 := (HB.out.cell (World.block_lt_of_cell? w _ hx110_0)).trans hx110_0
               replace p110 := eq_true p110
               replace q110 := eq_true q110
               have hcz23_0 : wr.cell? ⟨gb109, 0, none⟩ = some (.int .i64 a0_0) := (blk_cell BK109.out 0).trans rfl
               have hcz23_1 : wr.cell? ⟨gb109, 1, none⟩ = some (.int .i64 a0_1) := (blk_cell BK109.out 1).trans rfl
               have hcz23_2 : wr.cell? ⟨gb109, 2, none⟩ = some (.slice (some ad110) l0_2.length c0_2) := (blk_cell BK109.out 2).trans rfl
               have hfz23_0 := blk_frozen BK109.out 0
               have hfz23_1 := blk_frozen BK109.out 1
               have hfz23_2 := blk_frozen BK109.out 2
               have p111 : 0 ≤ ((ji19) : Int) := of_decide_eq_true (by first | (with_reducible assumption) | assumption)
               have q111 : (ji19) < (l0_2.length : Int) := of_decide_eq_true (by first | (with_reducible assumption) | assumption)
               obtain ⟨ad111, e111, hx111_0⟩ := Kd.at_int HR0_2.out (ji19) p111 q111
               obtain rfl : ad110 = ad111 := (by injection e111)
               replace hx111_0 := (HB.out.cell (World.block_lt_of_cell? w _ hx111_0)).trans hx111_0
               replace p111 := eq_true p111
               replace q111 := eq_true q111
               go_wp2
               go_ret
               exact ⟨by first | rfl | (simp [errW_none, errW_some] <;> rfl) | (simp only [← hji19]; first | rfl | (simp [errW_none, errW_some] <;> rfl)) | (simp [*, errW_none, errW_some] <;> rfl), by repeat (first | (with_reducible first | exact HB.out | apply below_alloc | apply pw_below_drewN | apply below_drew1 | refine below_set ?_ GE109.out) | exact HB.out)⟩
              ·
               rw [if_neg c22] at H
               have c22b0 : decide ((rd l0_2 x21_2) ≤ (rd l0_2 (ji19))) = false := decide_eq_false c22
               clear c22
               have H' := Aside0.mk H
               clear H
               have p110 : 0 ≤ (x21_2 : Int) := of_decide_eq_true (by first | (with_reducible assumption) | assumption)
               have q110 : x21_2 < (l0_2.length : Int) := of_decide_eq_true (by first | (with_reducible assumption) | assumption)
               obtain ⟨ad110, e110, hx110_0⟩ := Kd.at_int HR0_2.out x21_2 p110 q110
               cases e110
               replace hx110_0 := (HB.out.cell (World.block_lt_of_cell? w _ hx110_0)).trans hx110_0
               replace p110 := eq_true p110
               replace q110 := eq_true q110
               have hcz24_0 : wr.cell? ⟨gb109, 0, none⟩ = some (.int .i64 a0_0) := (blk_cell BK109.out 0).trans rfl
               have hcz24_1 : wr.cell? ⟨gb109, 1, none⟩ = some (.int .i64 a0_1) := (blk_cell BK109.out 1).trans rfl
               have hcz24_2 : wr.cell? ⟨gb109, 2, none⟩ = some (.slice (some ad110) l0_2.length c0_2) := (blk_cell BK109.out 2).trans rfl
               have hfz24_0 := blk_frozen BK109.out 0
               have hfz24_1 := blk_frozen BK109.out 1
               have hfz24_2 := blk_frozen BK109.out 2
               have p111 : 0 ≤ ((ji19) : Int) := of_decide_eq_true (by first | (with_reducible assumption) | assumption)
               have q111 : (ji19) < (l0_2.length : Int) := of_decide_eq_true (by first | (with_reducible assumption) | assumption)
               obtain ⟨ad111, e111, hx111_0⟩ := Kd.at_int HR0_2.out (ji19) p111 q111
               obtain rfl : ad110 = ad111 := (by injection e111)
               replace hx111_0 := (HB.out.cell (World.block_lt_of_cell? w _ hx111_0)).trans hx111_0
               replace p111 := eq_true p111
               replace q111 := eq_true q111
               go_wp2
               go_roundg k2
               case measure => have := HJ1.out; have := HK2.out; omega
               case rel => exact ⟨(wrap64 (x21_2 + 1)), (by first | rfl | (simp; done) | (simp [*]; done)), H', ⟨by have := HJ1.out; have := HK2.out; omega⟩, ⟨by (with_reducible repeat (first | refine blk_drewN ?_ _ | refine blk_drew ?_ | refine blk_alloc ?_ _)); exact BK109.out⟩, ⟨by repeat (first | (with_reducible first | exact HB.out | apply below_alloc | apply pw_below_drewN | apply below_drew1 | refine below_set ?_ GE109.out) | exact HB.out)⟩⟩
             ·
              rw [if_neg c21] at H
              exact absurd H (by simp)
            ·
             rw [if_neg c20] at H
             exact absurd H (by simp)
           ·
            rw [if_neg c18] at H
            have c18b0 : decide (0 < x21_2) = false := decide_eq_false c18
            clear c18
            have H' := Aside0.mk H
            clear H
            have p110 : 0 ≤ (x21_2 : Int) := of_decide_eq_true (by first | (with_reducible assumption) | assumption)
            have q110 : x21_2 < (l0_2.length : Int) := of_decide_eq_true (by first | (with_reducible assumption) | assumption)
            obtain ⟨ad110, e110, hx110_0⟩ := Kd.at_int HR0_2.out x21_2 p110 q110
            cases e110
            replace hx110_0 := (HB.out.cell (World.block_lt_of_cell? w _ hx110_0)).trans hx110_0
            replace p110 := eq_true p110
            replace q110 := eq_true q110
            have hcz25_0 : wr.cell? ⟨gb109, 0, none⟩ = some (.int .i64 a0_0) := (blk_cell BK109.out 0).trans rfl
            have hcz25_1 : wr.cell? ⟨gb109, 1, none⟩ = some (.int .i64 a0_1) := (blk_cell BK109.out 1).trans rfl
            have hcz25_2 : wr.cell? ⟨gb109, 2, none⟩ = some (.slice (some ad110) l0_2.length c0_2) := (blk_cell BK109.out 2).trans rfl
            have hfz25_0 := blk_frozen BK109.out 0
            have hfz25_1 := blk_frozen BK109.out 1
            have hfz25_2 := blk_frozen BK109.out 2
            go_wp2
            go_roundg k2
            case measure => have := HJ1.out; have := HK2.out; omega
            case rel => exact ⟨(wrap64 (x21_2 + 1)), (by first | rfl | (simp; done) | (simp [*]; done)), H', ⟨by have := HJ1.out; have := HK2.out; omega⟩, ⟨by (with_reducible repeat (first | refine blk_drewN ?_ _ | refine blk_drew ?_ | refine blk_alloc ?_ _)); exact BK109.out⟩, ⟨by repeat (first | (with_reducible first | exact HB.out | apply below_alloc | apply pw_below_drewN | apply below_drew1 | refine below_set ?_ GE109.out) | exact HB.out)⟩⟩
        ·
         rw [if_neg c13] at H
         exact absurd H (by simp)
       ·
        rw [if_neg c12] at H
        exact absurd H (by simp)
      ·
       rw [if_neg c11] at H
       have c11b0 : decide (x21_2 < (l0_2.length : Int)) = false := decide_eq_false c11
       clear c11
       obtain rfl := Option.some.inj H
       go_wp2
       go_ret
       exact ⟨by first | rfl | (simp [errW_none, errW_some] <;> rfl) | (simp [*, errW_none, errW_some] <;> rfl), by repeat (first | (with_reducible first | exact HB.out | apply below_alloc | apply pw_below_drewN | apply below_drew1 | refine below_set ?_ GE109.out) | exact HB.out)⟩

end Go.Proofs.Ytcbfnmabckjijaa.POrderBehind
