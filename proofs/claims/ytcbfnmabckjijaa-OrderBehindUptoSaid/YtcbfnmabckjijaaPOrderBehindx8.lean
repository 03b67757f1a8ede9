-- written by a program of this session (pp.py), out of the kit's print and this session's contracts
import Derived.Test.YtcbfnmabckjijaaPOrderBehindx0
import Derived.Test.YtcbfnmabckjijaaPOrderBehindx5
import Derived.Test.YtcbfnmabckjijaaPOrderBehindx7
import Derived.Test.YtcbfnmabckjijaaVOrderBehindPe
namespace Go.Proofs.Ytcbfnmabckjijaa.POrderBehind
open Go.RowKit Go.Proofs.YtcbfnmabckjijaaW.PrintWords Go.Proofs.YtcbfnmabckjijaaW.PrintLast Go.Proofs.YtcbfnmabckjijaaW.PrintMore
set_option linter.unusedVariables false
set_option linter.unusedSimpArgs false

def selvedgeref14_Behind.l0 : Nat → List ByteArray → List (S37) → List (S37) → List ByteArray → Int → Option ((List (S37)) × List ByteArray)
 | 0, _, _, _, _, _ => none
 | k + 1, x2, x8, x9, x10, x11 => if x11 < (x8.length : Int) then (if 0 ≤ x11 then ((selvedgeref14_Has.f k x2 ((rd_T37 x8 x11).f0)).bind fun t212 => (if t212 = true then (selvedgeref14_Behind.l0 k x2 x8 x9 x10 (wrap64 (x11 + 1))) else (if x9.length < 1466015503701 then ((some (x9 ++ [(⟨(rd_T37 x8 x11).f0, (⟨(rd_T37 x8 x11).f1.f0, (rd_T37 x8 x11).f1.f1, (rd_T37 x8 x11).f1.f2, (rd_T37 x8 x11).f1.f3, (⟨(rd_T37 x8 x11).f1.f4.f0, (rd_T37 x8 x11).f1.f4.f1⟩ : S33)⟩ : S35)⟩ : S37)] : List (S37))).bind fun y214 => ((selvedgeref14_Has.f k x10 ((rd_T37 x8 x11).f0)).bind fun t218 => (if t218 = true then (selvedgeref14_Behind.l0 k x2 x8 y214 x10 (wrap64 (x11 + 1))) else ((selvedgeref14_put.f k x10 ((rd_T37 x8 x11).f0)).bind fun t220 => (selvedgeref14_Behind.l0 k x2 x8 y214 t220 (wrap64 (x11 + 1))))))) else (none)))) else (none)) else (some (x9, x10))
def selvedgeref14_Behind.f (k : Nat) (a0_0 : Int) (a0_1 : Int) (l0_2 : List (S37)) (a1_0 : ByteArray) (a1_1 : Int) (a1_2 : Int) (l1_3 : List (S129)) (l1_4 : List ByteArray) (a1_5 : Int) (a1_6 : Int) (l2 : List ByteArray) : Option ((List (S37)) × List ByteArray) := (selvedgeref11_Past.f k a0_0 a0_1 l0_2 a1_0 (wrap64 (a1_2 - 12))).bind fun t208 => (selvedgeref14_Behind.l0 k l2 t208 ([] : List (S37)) l2 0)
set_option maxHeartbeats 8000000 in
set_option maxRecDepth 100000 in
theorem selvedgeref14_Behind.calls (k : Nat) (a0_0 : Int) (a0_1 : Int) (P0_2_ : Nat → Prop) (A0_2 : Option Addr) (c0_2 : Nat) (l0_2 : List (S37)) (a1_0 : ByteArray) (a1_1 : Int) (a1_2 : Int) (A1_3 : Option Addr) (c1_3 : Nat) (l1_3 : List (S129)) (A1_4 : Option Addr) (c1_4 : Nat) (l1_4 : List ByteArray) (a1_5 : Int) (a1_6 : Int) (P2_ : Nat → Prop) (A2 : Option Addr) (c2 : Nat) (l2 : List ByteArray) (r1 : List (S37)) (r2 : List ByteArray) (w : World) (hs0_2 : Kd.V k37 37 w w.heap.size (fun k_ => P0_2_ k_) (.slice A0_2 l0_2.length c0_2) l0_2) (hr1_3 : Kd.C k129 w A1_3 l1_3.length l1_3) (hc1_3 : l1_3.length ≤ c1_3) (hr1_4 : Kd.C Kd.string w A1_4 l1_4.length l1_4) (hc1_4 : l1_4.length ≤ c1_4) (hs2 : Kd.V Kd.string 9 w w.heap.size (fun k_ => P2_ k_) (.slice A2 l2.length c2) l2) (h : selvedgeref14_Behind.f k a0_0 a0_1 l0_2 a1_0 a1_1 a1_2 l1_3 l1_4 a1_5 a1_6 l2 = some (r1, r2)) :
  Calls Try.prog 27 #[.agg #[.int .i64 a0_0, .int .i64 a0_1, .slice A0_2 l0_2.length c0_2], .agg #[.string a1_0, .int .i64 a1_1, .int .i64 a1_2, .slice A1_3 l1_3.length c1_3, .slice A1_4 l1_4.length c1_4, .int .i64 a1_5, .int .i64 a1_6], .slice A2 l2.length c2] w fun e w' => ∃ v0_ v1_ : Value, e = .returned (.tuple #[v0_, v1_]) ∧ Kd.N k37 37 w' w.heap.size (fun k_ => ((P0_2_ k_ ∨ P2_ k_) ∨ w.heap.size ≤ k_)) v0_ r1 ∧ Kd.V Kd.string 9 w' w.heap.size (fun k_ => ((P0_2_ k_ ∨ P2_ k_) ∨ w.heap.size ≤ k_) ∧ some k_ ≠ (v0_ : Value).ownBlock) v1_ r2 ∧ Below w.heap.size w w' := by
 have hu24 := Try.underlying24
 have hu37 := Try.underlying37
 have HO0_2 := Aside0.mk (show Kd.V k37 37 w w.heap.size (fun k_ => ((P0_2_ k_ ∨ P2_ k_) ∨ w.heap.size ≤ k_)) (.slice A0_2 l0_2.length c0_2) l0_2 from Kd.V_mono hs0_2 (fun k_ hk => .inl (.inl hk)))
 have HR1_3 := Aside0.mk hr1_3
 have HC1_3 := Aside0.mk hc1_3
 clear hr1_3 hc1_3
 have HR1_4 := Aside0.mk hr1_4
 have HC1_4 := Aside0.mk hc1_4
 clear hr1_4 hc1_4
 have HO2 := Aside0.mk (show Kd.V Kd.string 9 w w.heap.size (fun k_ => ((P0_2_ k_ ∨ P2_ k_) ∨ w.heap.size ≤ k_)) (.slice A2 l2.length c2) l2 from Kd.V_mono hs2 (fun k_ hk => .inl (.inr hk)))
 have HB := Aside0.mk (Below.refl w.heap.size w)
 have H : ((selvedgeref11_Past.f k a0_0 a0_1 l0_2 a1_0 (wrap64 (a1_2 - 12))).bind fun t208 => (selvedgeref14_Behind.l0 k l2 t208 ([] : List (S37)) l2 0)) = some (r1, r2) := h
 clear h
 replace H := Option.bind_eq_some_iff.mp H
 obtain ⟨t208, A40, H⟩ := H
 replace H : (selvedgeref14_Behind.l0 k l2 t208 ([] : List (S37)) l2 0) = some (r1, r2) := H
 have A4 := Aside0.mk A40
 clear A40
 have H' := Aside0.mk H
 clear H
 go_enter Try.func27, Try.ntmps27
 go_wp2_with (first | ((with_reducible refine gate_dst (N := 3) rfl ?_); refine box_event ?hg (N := 3) ?hd (cs := #[.int .i64 a0_0, .int .i64 a0_1, .slice A0_2 l0_2.length c0_2]) (t := 24) ?hr ?_; (case hd => rfl); (case hg => rfl); (case hr => first | (go_simp; done) | (go_simp; rfl)); intro gb206 hg w5 hbox hb; have n0_ := Aside0.mk (Kd.V_below (Kd.V_elderB (Kd.pV HO0_2.out) gb206 (Nat.le_of_eq hg.symm)) hb); have n1_ := Aside0.mk (Kd.V_below (Kd.V_elderB (Kd.pV HO2.out) gb206 (Nat.le_of_eq hg.symm)) hb); have n2_ := Aside0.mk (below_step (by repeat (first | (with_reducible first | exact HB.out | apply below_alloc | apply pw_below_drewN | apply below_drew1) | exact HB.out)) hb); have n3_ := Aside0.mk (hbox); have n4_ := Aside0.mk ((by rw [hg]; exact (below_size (by repeat (first | (with_reducible first | exact HB.out | apply below_alloc | apply pw_below_drewN | apply below_drew1) | exact HB.out))) : w.heap.size ≤ gb206)); have n5_ := Aside0.mk ((by rw [hg]; exact (below_size (by repeat (first | (with_reducible first | exact HB.out | apply below_alloc | apply pw_below_drewN | apply below_drew1) | exact HB.out))) : w.heap.size ≤ gb206)); clear HO0_2; clear HO2; clear HB; have HO0_2 := n0_; have HO2 := n1_; have HB := n2_; have BK206 := n3_; have GW206 := n4_; have GE206 := n5_; clear n0_ n1_ n2_ n3_ n4_ n5_; clear hb hbox hg) | ((with_reducible refine gate_dst (N := 4) rfl ?_); refine box_event ?hg (N := 4) ?hd (cs := #[.string a1_0, .int .i64 a1_1, .int .i64 a1_2, .slice A1_3 l1_3.length c1_3, .slice A1_4 l1_4.length c1_4, .int .i64 a1_5, .int .i64 a1_6]) (t := 37) ?hr ?_; (case hd => rfl); (case hg => rfl); (case hr => first | (go_simp; done) | (go_simp; rfl)); intro gb207 hg w6 hbox hb; have n0_ := Aside0.mk (Kd.V_below (Kd.V_elderB (Kd.pV HO0_2.out) gb207 (Nat.le_of_eq hg.symm)) hb); have n1_ := Aside0.mk (Kd.V_below (Kd.V_elderB (Kd.pV HO2.out) gb207 (Nat.le_of_eq hg.symm)) hb); have n2_ := Aside0.mk (blk_below (g := gb206) (o := .cells #[.int .i64 a0_0, .int .i64 a0_1, .slice A0_2 l0_2.length c0_2] 24 (0, 0)) (pB BK206.out) hb); have n3_ := Aside0.mk (below_step (by repeat (first | (with_reducible first | exact HB.out | apply below_alloc | apply pw_below_drewN | apply below_drew1 | refine below_set ?_ GE206.out) | exact HB.out)) hb); have n4_ := Aside0.mk (hbox); have n5_ := Aside0.mk ((by rw [hg]; exact (below_size (by repeat (first | (with_reducible first | exact HB.out | apply below_alloc | apply pw_below_drewN | apply below_drew1 | refine below_set ?_ GE206.out) | exact HB.out))) : w.heap.size ≤ gb207)); have n6_ := Aside0.mk ((by rw [hg]; exact (below_size (by repeat (first | (with_reducible first | exact HB.out | apply below_alloc | apply pw_below_drewN | apply below_drew1 | refine below_set ?_ GE206.out) | exact HB.out))) : w.heap.size ≤ gb207)); have n7_ := Aside0.mk ((by rw [hg]; exact Nat.ne_of_lt (blk_lt (g := gb206) (o := .cells #[.int .i64 a0_0, .int .i64 a0_1, .slice A0_2 l0_2.length c0_2] 24 (0, 0)) (pB BK206.out)) : gb206 ≠ gb207)); have n8_ := Aside0.mk ((by rw [hg]; exact Nat.ne_of_gt (blk_lt (g := gb206) (o := .cells #[.int .i64 a0_0, .int .i64 a0_1, .slice A0_2 l0_2.length c0_2] 24 (0, 0)) (pB BK206.out)) : gb207 ≠ gb206)); clear HO0_2; clear HO2; clear BK206; clear HB; have HO0_2 := n0_; have HO2 := n1_; have BK206 := n2_; have HB := n3_; have BK207 := n4_; have GW207 := n5_; have GE207 := n6_; have NB206_207 := n7_; have NB207_206 := n8_; clear n0_ n1_ n2_ n3_ n4_ n5_ n6_ n7_ n8_; clear hb hbox hg; have hnb7 := NB206_207.out; have hnc7 := NB207_206.out; have hcz8_0 : w6.cell? ⟨gb206, 0, none⟩ = some (.int .i64 a0_0) := (blk_cell BK206.out 0).trans rfl; have hcz8_1 : w6.cell? ⟨gb206, 1, none⟩ = some (.int .i64 a0_1) := (blk_cell BK206.out 1).trans rfl; have hcz8_2 : w6.cell? ⟨gb206, 2, none⟩ = some (.slice A0_2 l0_2.length c0_2) := (blk_cell BK206.out 2).trans rfl; have hfz8_0 := blk_frozen BK206.out 0; have hfz8_1 := blk_frozen BK206.out 1; have hfz8_2 := blk_frozen BK206.out 2; have hcz9_0 : w6.cell? ⟨gb207, 0, none⟩ = some (.string a1_0) := (blk_cell BK207.out 0).trans rfl; have hcz9_1 : w6.cell? ⟨gb207, 1, none⟩ = some (.int .i64 a1_1) := (blk_cell BK207.out 1).trans rfl; have hcz9_2 : w6.cell? ⟨gb207, 2, none⟩ = some (.int .i64 a1_2) := (blk_cell BK207.out 2).trans rfl; have hcz9_3 : w6.cell? ⟨gb207, 3, none⟩ = some (.slice A1_3 l1_3.length c1_3) := (blk_cell BK207.out 3).trans rfl; have hcz9_4 : w6.cell? ⟨gb207, 4, none⟩ = some (.slice A1_4 l1_4.length c1_4) := (blk_cell BK207.out 4).trans rfl; have hcz9_5 : w6.cell? ⟨gb207, 5, none⟩ = some (.int .i64 a1_5) := (blk_cell BK207.out 5).trans rfl; have hcz9_6 : w6.cell? ⟨gb207, 6, none⟩ = some (.int .i64 a1_6) := (blk_cell BK207.out 6).trans rfl; have hfz9_0 := blk_frozen BK207.out 0; have hfz9_1 := blk_frozen BK207.out 1; have hfz9_2 := blk_frozen BK207.out 2; have hfz9_3 := blk_frozen BK207.out 3; have hfz9_4 := blk_frozen BK207.out 4; have hfz9_5 := blk_frozen BK207.out 5; have hfz9_6 := blk_frozen BK207.out 6) | ((with_reducible refine gate_callee (f := 55) rfl ?_); refine goesL_ (some 21) rfl rfl Try.func55 (by kernel_rfl) rfl #[.agg #[.int .i64 a0_0, .int .i64 a0_1, .slice A0_2 l0_2.length c0_2], .string a1_0, .int .i64 (wrap64 (a1_2 - 12))] rfl (by (try simp only [List.map_toArray, List.map_cons, List.map_nil]); first | done | rfl | (simp only [List.length_drop, List.length_take]; rfl)) ?_; (with_reducible refine (selvedgeref11_Past.calls k a0_0 a0_1 (fun k_ => ((((P0_2_ k_ ∨ P2_ k_) ∨ w.heap.size ≤ k_) ∧ k_ ≠ gb206) ∧ k_ ≠ gb207)) _ _ l0_2 a1_0 (wrap64 (a1_2 - 12)) t208 _ ?side1 A4.out).mono ?_); (case side1 => exact HO0_2.out); rintro e w10 ⟨v209, rfl, ho0, hb⟩; refine ⟨_, rfl, ?_⟩; have n0_ := Aside0.mk (Kd.V_elder' (Kd.pV HO0_2.out) (Kd.N_base ho0) hb); have n1_ := Aside0.mk (Kd.V_elder' (Kd.pV HO2.out) (Kd.N_base ho0) hb); have n2_ := Aside0.mk (Kd.N_lower (Kd.N_mono (ok' := fun k_ => ((P0_2_ k_ ∨ P2_ k_) ∨ w.heap.size ≤ k_) ∧ k_ ≠ gb206 ∧ k_ ≠ gb207) ho0 (fun k_ hk_ => ⟨Or.elim hk_ (fun hs_ => hs_.1.1) (fun hn_ => (.inr (Nat.le_trans (below_size (by repeat (first | (with_reducible first | exact HB.out | apply below_alloc | apply pw_below_drewN | apply below_drew1 | refine below_set ?_ GE206.out | refine below_set ?_ GE207.out) | exact HB.out))) hn_))), Or.elim hk_ (fun hs_ => hs_.1.2) (fun hn_ => (Kd.freshB (g := gb206) (o := .cells #[.int .i64 a0_0, .int .i64 a0_1, .slice A0_2 l0_2.length c0_2] 24 (0, 0)) (pB BK206.out) k_ hn_)), Or.elim hk_ (fun hs_ => hs_.2) (fun hn_ => (Kd.freshB (g := gb207) (o := .cells #[.string a1_0, .int .i64 a1_1, .int .i64 a1_2, .slice A1_3 l1_3.length c1_3, .slice A1_4 l1_4.length c1_4, .int .i64 a1_5, .int .i64 a1_6] 37 (0, 0)) (pB BK207.out) k_ hn_))⟩)) (below_size (by repeat (first | (with_reducible first | exact HB.out | apply below_alloc | apply pw_below_drewN | apply below_drew1 | refine below_set ?_ GE206.out | refine below_set ?_ GE207.out) | exact HB.out)))); have n3_ := Aside0.mk (blk_below (g := gb206) (o := .cells #[.int .i64 a0_0, .int .i64 a0_1, .slice A0_2 l0_2.length c0_2] 24 (0, 0)) (pB BK206.out) hb); have n4_ := Aside0.mk (blk_below (g := gb207) (o := .cells #[.string a1_0, .int .i64 a1_1, .int .i64 a1_2, .slice A1_3 l1_3.length c1_3, .slice A1_4 l1_4.length c1_4, .int .i64 a1_5, .int .i64 a1_6] 37 (0, 0)) (pB BK207.out) hb); have n5_ := Aside0.mk (below_step (by repeat (first | (with_reducible first | exact HB.out | apply below_alloc | apply pw_below_drewN | apply below_drew1 | refine below_set ?_ GE206.out | refine below_set ?_ GE207.out) | exact HB.out)) hb); clear HO0_2; clear HO2; clear BK206; clear BK207; clear HB; have HO0_2 := n0_; have HO2 := n1_; have HO210 := n2_; have BK206 := n3_; have BK207 := n4_; have HB := n5_; clear n0_ n1_ n2_ n3_ n4_ n5_; (try clear hb); (try clear hb2); (try clear hk); (try clear hi); (try clear ho0)))
 go_loopg [9, 10, 11] k (fun kq v9 v10 v11 w' => ∃ (x9_1 : List (S37)) (x10_1 : List ByteArray) (x11_1 : Int), v11 = .int .i64 x11_1 ∧ Aside0 (selvedgeref14_Behind.l0 kq l2 t208 x9_1 x10_1 x11_1 = some (r1, r2)) ∧ Aside0 (kq ≤ k) ∧ Aside0 (Kd.V Kd.string 9 w' w.heap.size (fun k_ => ((P0_2_ k_ ∨ P2_ k_) ∨ w.heap.size ≤ k_) ∧ some k_ ≠ (v209 : Value).ownBlock ∧ some k_ ≠ (v9 : Value).ownBlock ∧ k_ ≠ gb206 ∧ k_ ≠ gb207) (.slice A2 l2.length c2) l2) ∧ Aside0 (Kd.N k37 37 w' w.heap.size (fun k_ => ((P0_2_ k_ ∨ P2_ k_) ∨ w.heap.size ≤ k_) ∧ some k_ ≠ (v9 : Value).ownBlock ∧ k_ ≠ gb206 ∧ k_ ≠ gb207) v209 t208) ∧ Aside0 (Kd.N k37 37 w' w.heap.size (fun k_ => ((P0_2_ k_ ∨ P2_ k_) ∨ w.heap.size ≤ k_) ∧ some k_ ≠ (v209 : Value).ownBlock ∧ k_ ≠ gb206 ∧ k_ ≠ gb207) v9 x9_1) ∧ Aside0 (Kd.V Kd.string 9 w' w.heap.size (fun k_ => ((P0_2_ k_ ∨ P2_ k_) ∨ w.heap.size ≤ k_) ∧ some k_ ≠ (v209 : Value).ownBlock ∧ some k_ ≠ (v9 : Value).ownBlock ∧ k_ ≠ gb206 ∧ k_ ≠ gb207) v10 x10_1) ∧ Aside0 (Kd.V k37 37 w' w.heap.size (fun k_ => ((P0_2_ k_ ∨ P2_ k_) ∨ w.heap.size ≤ k_) ∧ some k_ ≠ (v209 : Value).ownBlock ∧ some k_ ≠ (v9 : Value).ownBlock ∧ k_ ≠ gb206 ∧ k_ ≠ gb207) (.slice A0_2 l0_2.length c0_2) l0_2) ∧ Aside0 (w'.heap[gb206]? = some (.cells #[.int .i64 a0_0, .int .i64 a0_1, (.slice A0_2 l0_2.length c0_2)] 24 (0, 0))) ∧ Aside0 (w'.heap[gb207]? = some (.cells #[.string a1_0, .int .i64 a1_1, .int .i64 a1_2, (.slice A1_3 l1_3.length c1_3), (.slice A1_4 l1_4.length c1_4), .int .i64 a1_5, .int .i64 a1_6] 37 (0, 0))) ∧ Aside0 (Below w.heap.size w w'))
 case atStart => exact ⟨(([] : List (S37))), (l2), (0), (by first | rfl | (simp; done) | (simp [*]; done)), H', ⟨Nat.le_refl _⟩, ⟨by (with_reducible repeat (first | apply Kd.V_alloc | apply Kd.V_drewN | apply Kd.V_drew)); exact Kd.V_mono HO2.out (fun _ hk => ⟨hk.1.1.1, ⟨hk.2, ⟨(by simp [Value.ownBlock]), ⟨hk.1.1.2, hk.1.2⟩⟩⟩⟩)⟩, ⟨by (with_reducible repeat (first | apply Kd.N_alloc | apply Kd.N_drewN | apply Kd.N_drew)); exact Kd.N_mono HO210.out (fun _ hk => ⟨hk.1, ⟨(by simp [Value.ownBlock]), ⟨hk.2.1, hk.2.2⟩⟩⟩)⟩, ⟨by first | exact Kd.R_nil _ _ _ _ _ | exact Kd.N_nil _ _ _ _ _ | exact Kd.V_nil _ _ _ _ _ | exact Kd.Q_nil _ _ _ _ _ | exact Kd.S_nil _ _ _ _ _⟩, ⟨by (with_reducible repeat (first | apply Kd.V_alloc | apply Kd.V_drewN | apply Kd.V_drew)); exact Kd.V_mono HO2.out (fun _ hk => ⟨hk.1.1.1, ⟨hk.2, ⟨(by simp [Value.ownBlock]), ⟨hk.1.1.2, hk.1.2⟩⟩⟩⟩)⟩, ⟨by (with_reducible repeat (first | apply Kd.V_alloc | apply Kd.V_drewN | apply Kd.V_drew)); exact Kd.V_mono HO0_2.out (fun _ hk => ⟨hk.1.1.1, ⟨hk.2, ⟨(by simp [Value.ownBlock]), ⟨hk.1.1.2, hk.1.2⟩⟩⟩⟩)⟩, ⟨by (with_reducible repeat (first | refine blk_drewN ?_ _ | refine blk_drew ?_ | refine blk_alloc ?_ _)); exact BK206.out⟩, ⟨by (with_reducible repeat (first | refine blk_drewN ?_ _ | refine blk_drew ?_ | refine blk_alloc ?_ _)); exact BK207.out⟩, ⟨by repeat (first | (with_reducible first | exact HB.out | apply below_alloc | apply pw_below_drewN | apply below_drew1 | refine below_set ?_ GE206.out | refine below_set ?_ GE207.out) | exact HB.out)⟩⟩
 case round =>
  clear H'
  try clear c1
  try clear c2
  try clear p2
  try clear c5
  try clear p6
  try clear c7
  try clear hcz8_0
  try clear hcz8_1
  try clear hcz8_2
  try clear hcz9_0
  try clear hcz9_1
  try clear hcz9_2
  try clear hcz9_3
  try clear hcz9_4
  try clear hcz9_5
  try clear hcz9_6
  try clear hfz8_0
  try clear hfz8_1
  try clear hfz8_2
  try clear hfz9_0
  try clear hfz9_1
  try clear hfz9_2
  try clear hfz9_3
  try clear hfz9_4
  try clear hfz9_5
  try clear hfz9_6
  obtain ⟨x9_1, x10_1, x11_1, rfl, HA, HK1, HO_2, HO_8, HO_9, HO_10, HO_207002, BK206, BK207, HB⟩ := hrel
  cases gk with
  | zero => exact absurd HA.out (by simp [selvedgeref14_Behind.l0])
  | succ k1 =>
   have H := HA.out
   clear HA
   simp only [selvedgeref14_Behind.l0] at H
   by_cases c11 : x11_1 < (t208.length : Int)
   ·
    rw [if_pos c11] at H
    have c11b0 : decide (x11_1 < (t208.length : Int)) = true := decide_eq_true c11
    clear c11
    by_cases c12 : 0 ≤ x11_1
    ·
     rw [if_pos c12] at H
     have c12b0 : decide (0 ≤ x11_1) = true := decide_eq_true c12
     clear c12
     replace H := Option.bind_eq_some_iff.mp H
     obtain ⟨t212, A130, H⟩ := H
     replace H : (if t212 = true then (selvedgeref14_Behind.l0 k1 l2 t208 x9_1 x10_1 (wrap64 (x11_1 + 1))) else (if x9_1.length < 1466015503701 then ((some (x9_1 ++ [(⟨(rd_T37 t208 x11_1).f0, (⟨(rd_T37 t208 x11_1).f1.f0, (rd_T37 t208 x11_1).f1.f1, (rd_T37 t208 x11_1).f1.f2, (rd_T37 t208 x11_1).f1.f3, (⟨(rd_T37 t208 x11_1).f1.f4.f0, (rd_T37 t208 x11_1).f1.f4.f1⟩ : S33)⟩ : S35)⟩ : S37)] : List (S37))).bind fun y214 => ((selvedgeref14_Has.f k1 x10_1 ((rd_T37 t208 x11_1).f0)).bind fun t218 => (if t218 = true then (selvedgeref14_Behind.l0 k1 l2 t208 y214 x10_1 (wrap64 (x11_1 + 1))) else ((selvedgeref14_put.f k1 x10_1 ((rd_T37 t208 x11_1).f0)).bind fun t220 => (selvedgeref14_Behind.l0 k1 l2 t208 y214 t220 (wrap64 (x11_1 + 1))))))) else (none))) = some (r1, r2) := H
     have A13 := Aside0.mk A130
     clear A130
     by_cases c14 : t212 = true
     ·
      subst c14
      have H1 : (selvedgeref14_Behind.l0 k1 l2 t208 x9_1 x10_1 (wrap64 (x11_1 + 1))) = some (r1, r2) := by rw [if_pos rfl] at H; exact H
      clear H
      have H := H1
      clear H1
      have H' := Aside0.mk H
      clear H
      obtain ⟨Ao15, co15, eo15⟩ := Kd.N_slice HO_8.out
      subst eo15
      have p211 : 0 ≤ (x11_1 : Int) := of_decide_eq_true (by first | (with_reducible assumption) | assumption)
      have q211 : x11_1 < (t208.length : Int) := of_decide_eq_true (by first | (with_reducible assumption) | assumption)
      obtain ⟨ad211, A211_3, c211_3, A211_4, c211_4, e211, hx211_0, hx211_1, hx211_2, hx211_3, hx211_4, hx211_5, hx211_6, hl211_3, hi211_3, hl211_4, hi211_4⟩ := at_T37 (Kd.N_reads' HO_8.out).2.2 x11_1 p211 q211
      cases e211
      obtain ⟨ce211, hce211, hMe211, hcc211⟩ := Kd.N_get HO_8.out z37 x11_1 p211 (by first | exact q211 | exact of_decide_eq_true (by first | (with_reducible assumption) | assumption) | (have e_ := (Kd.N_reads' HO_8.out).1; omega))
      obtain ⟨ua211_3, uc211_3, ua211_4, uc211_4, rfl, ul211_3, ge211_3, ul211_4, ge211_4⟩ := k37_openF hMe211
      have hv211_3 := hcc211 3 _ rfl
      rw [add_field _ _ 3 (by omega)] at hv211_3
      replace hv211_3 := Option.some.inj (hv211_3.symm.trans hx211_3)
      injection hv211_3 with hva_ hvn_ hvc_
      rw [hva_] at ge211_3
      rw [hvc_] at ul211_3
      have HL211_3 := Aside0.mk (show Kd.V k129 129 _ w.heap.size _ _ ((rd_T37 t208 x11_1).f1.f2) from Kd.V_mk ul211_3 ge211_3)
      clear hva_ hvn_ hvc_ ge211_3 ul211_3
      have hv211_4 := hcc211 4 _ rfl
      rw [add_field _ _ 4 (by omega)] at hv211_4
      replace hv211_4 := Option.some.inj (hv211_4.symm.trans hx211_4)
      injection hv211_4 with hva_ hvn_ hvc_
      rw [hva_] at ge211_4
      rw [hvc_] at ul211_4
      have HL211_4 := Aside0.mk (show Kd.V Kd.string 9 _ w.heap.size _ _ ((rd_T37 t208 x11_1).f1.f3) from Kd.V_mk ul211_4 ge211_4)
      clear hva_ hvn_ hvc_ ge211_4 ul211_4
      clear hcc211 hce211
      have HR211_3 := Aside0.mk hi211_3
      have HC211_3 := Aside0.mk hl211_3
      clear hi211_3 hl211_3
      have HR211_4 := Aside0.mk hi211_4
      have HC211_4 := Aside0.mk hl211_4
      clear hi211_4 hl211_4
      replace p211 := eq_true p211
      replace q211 := eq_true q211
      go_wp2_with (first | ((with_reducible refine gate_callee (f := 32) rfl ?_); refine goesL_ (some 35) rfl rfl Try.func32 (by kernel_rfl) rfl #[.slice A2 l2.length c2, .string ((rd_T37 t208 x11_1).f0)] rfl (by (try simp only [List.map_toArray, List.map_cons, List.map_nil]); first | done | rfl | (simp only [List.length_drop, List.length_take]; rfl)) ?_; (with_reducible refine (selvedgeref14_Has.calls k1 _ _ l2 ((rd_T37 t208 x11_1).f0) true _ ?side1 ?side2 A13.out).mono ?_); (case side1 => repeat (first | exact (Kd.V_reads' HO_2.out).2.2 | (with_reducible refine Kd.C_alloc ?_ _) | (with_reducible refine Kd.C_drewN ?_ _) | (with_reducible refine Kd.C_drew ?_))); (case side2 => exact (Kd.V_reads' HO_2.out).2.1); rintro e w' ⟨rfl, ⟨nd, rfl⟩⟩; refine ⟨_, rfl, ?_⟩))
      go_roundg k1
      case measure => have := HK1.out; omega
      case rel => exact ⟨(x9_1), (x10_1), (wrap64 (x11_1 + 1)), (by first | rfl | (simp; done) | (simp [*]; done)), H', ⟨by have := HK1.out; omega⟩, ⟨by (with_reducible repeat (first | apply Kd.V_alloc | apply Kd.V_drewN | apply Kd.V_drew)); exact HO_2.out⟩, ⟨by (with_reducible repeat (first | apply Kd.N_alloc | apply Kd.N_drewN | apply Kd.N_drew)); exact HO_8.out⟩, ⟨by (with_reducible repeat (first | apply Kd.N_alloc | apply Kd.N_drewN | apply Kd.N_drew)); exact HO_9.out⟩, ⟨by (with_reducible repeat (first | apply Kd.V_alloc | apply Kd.V_drewN | apply Kd.V_drew)); exact HO_10.out⟩, ⟨by (with_reducible repeat (first | apply Kd.V_alloc | apply Kd.V_drewN | apply Kd.V_drew)); exact HO_207002.out⟩, ⟨by (with_reducible repeat (first | refine blk_drewN ?_ _ | refine blk_drew ?_ | refine blk_alloc ?_ _)); exact BK206.out⟩, ⟨by (with_reducible repeat (first | refine blk_drewN ?_ _ | refine blk_drew ?_ | refine blk_alloc ?_ _)); exact BK207.out⟩, ⟨by repeat (first | (with_reducible first | exact HB.out | apply below_alloc | apply pw_below_drewN | apply below_drew1 | refine below_set ?_ GE206.out | refine below_set ?_ GE207.out) | exact HB.out)⟩⟩
     ·
      replace c14 := Bool.eq_false_iff.mpr c14
      subst c14
      have H1 : (if x9_1.length < 1466015503701 then ((some (x9_1 ++ [(⟨(rd_T37 t208 x11_1).f0, (⟨(rd_T37 t208 x11_1).f1.f0, (rd_T37 t208 x11_1).f1.f1, (rd_T37 t208 x11_1).f1.f2, (rd_T37 t208 x11_1).f1.f3, (⟨(rd_T37 t208 x11_1).f1.f4.f0, (rd_T37 t208 x11_1).f1.f4.f1⟩ : S33)⟩ : S35)⟩ : S37)] : List (S37))).bind fun y214 => ((selvedgeref14_Has.f k1 x10_1 ((rd_T37 t208 x11_1).f0)).bind fun t218 => (if t218 = true then (selvedgeref14_Behind.l0 k1 l2 t208 y214 x10_1 (wrap64 (x11_1 + 1))) else ((selvedgeref14_put.f k1 x10_1 ((rd_T37 t208 x11_1).f0)).bind fun t220 => (selvedgeref14_Behind.l0 k1 l2 t208 y214 t220 (wrap64 (x11_1 + 1))))))) else (none)) = some (r1, r2) := by rw [if_neg (show ¬ (false = true) by decide)] at H; exact H
      clear H
      have H := H1
      clear H1
      by_cases c16 : x9_1.length < 1466015503701
      ·
       rw [if_pos c16] at H
       have LMc16 := Aside0.mk c16
       clear c16
       obtain ⟨y214, hy214⟩ : ∃ y_ : List (S37), y_ = (x9_1 ++ [(⟨(rd_T37 t208 x11_1).f0, (⟨(rd_T37 t208 x11_1).f1.f0, (rd_T37 t208 x11_1).f1.f1, (rd_T37 t208 x11_1).f1.f2, (rd_T37 t208 x11_1).f1.f3, (⟨(rd_T37 t208 x11_1).f1.f4.f0, (rd_T37 t208 x11_1).f1.f4.f1⟩ : S33)⟩ : S35)⟩ : S37)]) := ⟨_, rfl⟩
       replace H : ((selvedgeref14_Has.f k1 x10_1 ((rd_T37 t208 x11_1).f0)).bind fun t218 => (if t218 = true then (selvedgeref14_Behind.l0 k1 l2 t208 y214 x10_1 (wrap64 (x11_1 + 1))) else ((selvedgeref14_put.f k1 x10_1 ((rd_T37 t208 x11_1).f0)).bind fun t220 => (selvedgeref14_Behind.l0 k1 l2 t208 y214 t220 (wrap64 (x11_1 + 1)))))) = some (r1, r2) := by first | (rw [hy214]; with_reducible exact H) | (have H2_ := (Option.bind_some _ _).symm.trans H; rw [hy214]; with_reducible exact H2_) | (have H2_ := (Option.bind_some _ _).symm.trans H; with_reducible exact H2_) | with_reducible exact H | (rw [hy214]; exact H) | exact H
       have Ny214 := Aside0.mk hy214
       clear hy214
       replace H := Option.bind_eq_some_iff.mp H
       obtain ⟨t218, A170, H⟩ := H
       replace H : (if t218 = true then (selvedgeref14_Behind.l0 k1 l2 t208 y214 x10_1 (wrap64 (x11_1 + 1))) else ((selvedgeref14_put.f k1 x10_1 ((rd_T37 t208 x11_1).f0)).bind fun t220 => (selvedgeref14_Behind.l0 k1 l2 t208 y214 t220 (wrap64 (x11_1 + 1))))) = some (r1, r2) := H
       have A17 := Aside0.mk A170
       clear A170
       by_cases c18 : t218 = true
       ·
        subst c18
        have H1 : (selvedgeref14_Behind.l0 k1 l2 t208 y214 x10_1 (wrap64 (x11_1 + 1))) = some (r1, r2) := by rw [if_pos rfl] at H; exact H
        clear H
        have H := H1
        clear H1
        have H' := Aside0.mk H
        clear H
        obtain ⟨Ao19, co19, eo19⟩ := Kd.N_slice HO_8.out
        subst eo19
        have p211 : 0 ≤ (x11_1 : Int) := of_decide_eq_true (by first | (with_reducible assumption) | assumption)
        have q211 : x11_1 < (t208.length : Int) := of_decide_eq_true (by first | (with_reducible assumption) | assumption)
        obtain ⟨ad211, A211_3, c211_3, A211_4, c211_4, e211, hx211_0, hx211_1, hx211_2, hx211_3, hx211_4, hx211_5, hx211_6, hl211_3, hi211_3, hl211_4, hi211_4⟩ := at_T37 (Kd.N_reads' HO_8.out).2.2 x11_1 p211 q211
        cases e211
        obtain ⟨ce211, hce211, hMe211, hcc211⟩ := Kd.N_get HO_8.out z37 x11_1 p211 (by first | exact q211 | exact of_decide_eq_true (by first | (with_reducible assumption) | assumption) | (have e_ := (Kd.N_reads' HO_8.out).1; omega))
        obtain ⟨ua211_3, uc211_3, ua211_4, uc211_4, rfl, ul211_3, ge211_3, ul211_4, ge211_4⟩ := k37_openF hMe211
        have hv211_3 := hcc211 3 _ rfl
        rw [add_field _ _ 3 (by omega)] at hv211_3
        replace hv211_3 := Option.some.inj (hv211_3.symm.trans hx211_3)
        injection hv211_3 with hva_ hvn_ hvc_
        rw [hva_] at ge211_3
        rw [hvc_] at ul211_3
        have HL211_3 := Aside0.mk (show Kd.V k129 129 _ w.heap.size _ _ ((rd_T37 t208 x11_1).f1.f2) from Kd.V_mk ul211_3 ge211_3)
        clear hva_ hvn_ hvc_ ge211_3 ul211_3
        have hv211_4 := hcc211 4 _ rfl
        rw [add_field _ _ 4 (by omega)] at hv211_4
        replace hv211_4 := Option.some.inj (hv211_4.symm.trans hx211_4)
        injection hv211_4 with hva_ hvn_ hvc_
        rw [hva_] at ge211_4
        rw [hvc_] at ul211_4
        have HL211_4 := Aside0.mk (show Kd.V Kd.string 9 _ w.heap.size _ _ ((rd_T37 t208 x11_1).f1.f3) from Kd.V_mk ul211_4 ge211_4)
        clear hva_ hvn_ hvc_ ge211_4 ul211_4
        clear hcc211 hce211
        have HR211_3 := Aside0.mk hi211_3
        have HC211_3 := Aside0.mk hl211_3
        clear hi211_3 hl211_3
        have HR211_4 := Aside0.mk hi211_4
        have HC211_4 := Aside0.mk hl211_4
        clear hi211_4 hl211_4
        replace p211 := eq_true p211
        replace q211 := eq_true q211
        go_wp2_with (first | ((with_reducible refine gate_callee (f := 32) rfl ?_); refine goesL_ (some 35) rfl rfl Try.func32 (by kernel_rfl) rfl #[.slice A2 l2.length c2, .string ((rd_T37 t208 x11_1).f0)] rfl (by (try simp only [List.map_toArray, List.map_cons, List.map_nil]); first | done | rfl | (simp only [List.length_drop, List.length_take]; rfl)) ?_; (with_reducible refine (selvedgeref14_Has.calls k1 _ _ l2 ((rd_T37 t208 x11_1).f0) false _ ?side1 ?side2 A13.out).mono ?_); (case side1 => repeat (first | exact (Kd.V_reads' HO_2.out).2.2 | (with_reducible refine Kd.C_alloc ?_ _) | (with_reducible refine Kd.C_drewN ?_ _) | (with_reducible refine Kd.C_drew ?_))); (case side2 => exact (Kd.V_reads' HO_2.out).2.1); rintro e w' ⟨rfl, ⟨nd, rfl⟩⟩; refine ⟨_, rfl, ?_⟩; have p213 : 0 ≤ (x11_1 : Int) := of_decide_eq_true (by first | (with_reducible assumption) | assumption); have q213 : x11_1 < (t208.length : Int) := of_decide_eq_true (by first | (with_reducible assumption) | assumption); obtain ⟨ad213, A213_3, c213_3, A213_4, c213_4, e213, hx213_0, hx213_1, hx213_2, hx213_3, hx213_4, hx213_5, hx213_6, hl213_3, hi213_3, hl213_4, hi213_4⟩ := at_T37 (Kd.N_reads' HO_8.out).2.2 x11_1 p213 q213; obtain rfl : ad211 = ad213 := (by injection e213); obtain ⟨ce213, hce213, hMe213, hcc213⟩ := Kd.N_get HO_8.out z37 x11_1 p213 (by first | exact q213 | exact of_decide_eq_true (by first | (with_reducible assumption) | assumption) | (have e_ := (Kd.N_reads' HO_8.out).1; omega)); obtain ⟨ua213_3, uc213_3, ua213_4, uc213_4, rfl, ul213_3, ge213_3, ul213_4, ge213_4⟩ := k37_openF hMe213; have hv213_3 := hcc213 3 _ rfl; rw [add_field _ _ 3 (by omega)] at hv213_3; replace hv213_3 := Option.some.inj (hv213_3.symm.trans hx213_3); injection hv213_3 with hva_ hvn_ hvc_; rw [hva_] at ge213_3; rw [hvc_] at ul213_3; have HL213_3 := Aside0.mk (show Kd.V k129 129 _ w.heap.size _ _ ((rd_T37 t208 x11_1).f1.f2) from Kd.V_mk ul213_3 ge213_3); clear hva_ hvn_ hvc_ ge213_3 ul213_3; have hv213_4 := hcc213 4 _ rfl; rw [add_field _ _ 4 (by omega)] at hv213_4; replace hv213_4 := Option.some.inj (hv213_4.symm.trans hx213_4); injection hv213_4 with hva_ hvn_ hvc_; rw [hva_] at ge213_4; rw [hvc_] at ul213_4; have HL213_4 := Aside0.mk (show Kd.V Kd.string 9 _ w.heap.size _ _ ((rd_T37 t208 x11_1).f1.f3) from Kd.V_mk ul213_4 ge213_4); clear hva_ hvn_ hvc_ ge213_4 ul213_4; clear hcc213 hce213; have HR213_3 := Aside0.mk hi213_3; have HC213_3 := Aside0.mk hl213_3; clear hi213_3 hl213_3; have HR213_4 := Aside0.mk hi213_4; have HC213_4 := Aside0.mk hl213_4; clear hi213_4 hl213_4; replace p213 := eq_true p213; replace q213 := eq_true q213; have ea_ := Option.some.inj (hx211_3.symm.trans hx213_3); injection ea_ with ea_ en_ ec_; subst ea_; subst ec_; clear en_; have ea_ := Option.some.inj (hx211_4.symm.trans hx213_4); injection ea_ with ea_ en_ ec_; subst ea_; subst ec_; clear en_) | ((with_reducible refine gate_builtin (b := .append) (xs := #[.tmp 37, .tmp 42]) rfl ?_); at_builtin; refine Kd.N_append k37 (w0 := w) w.heap.size rfl (.tmp 37) (.tmp 42) 22 37 (.agg #[(.string ⟨#[]⟩), (.int .i64 0), (.int .i64 0), (.slice none 0 0), (.slice none 0 0), (.int .i64 0), (.int .i64 0)]) 96 rfl Try.underlying22 info37 rfl (by decide) (by omega) u9 x9_1 (⟨(rd_T37 t208 x11_1).f0, (⟨(rd_T37 t208 x11_1).f1.f0, (rd_T37 t208 x11_1).f1.f1, (rd_T37 t208 x11_1).f1.f2, (rd_T37 t208 x11_1).f1.f3, (⟨(rd_T37 t208 x11_1).f1.f4.f0, (rd_T37 t208 x11_1).f1.f4.f1⟩ : S33)⟩ : S35)⟩ : S37) [.string ((rd_T37 t208 x11_1).f0), .int .i64 ((rd_T37 t208 x11_1).f1.f0), .int .i64 ((rd_T37 t208 x11_1).f1.f1), .slice A211_3 ((rd_T37 t208 x11_1).f1.f2).length c211_3, .slice A211_4 ((rd_T37 t208 x11_1).f1.f3).length c211_4, .int .i64 ((rd_T37 t208 x11_1).f1.f4.f0), .int .i64 ((rd_T37 t208 x11_1).f1.f4.f1)] (fun k_ => ((P0_2_ k_ ∨ P2_ k_) ∨ w.heap.size ≤ k_) ∧ some k_ ≠ (.slice (some ad211) t208.length co19 : Value).ownBlock ∧ k_ ≠ gb206 ∧ k_ ≠ gb207) (fun k_ => ((fun k_ => ((P0_2_ k_ ∨ P2_ k_) ∨ w.heap.size ≤ k_) ∧ some k_ ≠ (.slice (some ad211) t208.length co19 : Value).ownBlock ∧ k_ ≠ gb206 ∧ k_ ≠ gb207)) k_ ∧ some k_ ≠ (u9 : Value).ownBlock) rfl rfl ?aP (fun _ hk => hk) ?aF ?aO ?aB ?aS ?aL ?_; (case aP => exact (k37_mkF _ _ (⟨(rd_T37 t208 x11_1).f0, (⟨(rd_T37 t208 x11_1).f1.f0, (rd_T37 t208 x11_1).f1.f1, (rd_T37 t208 x11_1).f1.f2, (rd_T37 t208 x11_1).f1.f3, (⟨(rd_T37 t208 x11_1).f1.f4.f0, (rd_T37 t208 x11_1).f1.f4.f1⟩ : S33)⟩ : S35)⟩ : S37) (Kd.V_reads' (Kd.V_mono (ok' := (fun k_ => ((fun k_ => ((P0_2_ k_ ∨ P2_ k_) ∨ w.heap.size ≤ k_) ∧ some k_ ≠ (.slice (some ad211) t208.length co19 : Value).ownBlock ∧ k_ ≠ gb206 ∧ k_ ≠ gb207)) k_ ∧ some k_ ≠ (u9 : Value).ownBlock)) (HL213_3.out) (fun k_ hk => ⟨⟨hk.1.1, ⟨hk.2, ⟨hk.1.2.2.1, hk.1.2.2.2⟩⟩⟩, hk.1.2.1⟩))).2.1 (Kd.V_F (Kd.V_mono (ok' := (fun k_ => ((fun k_ => ((P0_2_ k_ ∨ P2_ k_) ∨ w.heap.size ≤ k_) ∧ some k_ ≠ (.slice (some ad211) t208.length co19 : Value).ownBlock ∧ k_ ≠ gb206 ∧ k_ ≠ gb207)) k_ ∧ some k_ ≠ (u9 : Value).ownBlock)) (HL213_3.out) (fun k_ hk => ⟨⟨hk.1.1, ⟨hk.2, ⟨hk.1.2.2.1, hk.1.2.2.2⟩⟩⟩, hk.1.2.1⟩))) (Kd.V_reads' (Kd.V_mono (ok' := (fun k_ => ((fun k_ => ((P0_2_ k_ ∨ P2_ k_) ∨ w.heap.size ≤ k_) ∧ some k_ ≠ (.slice (some ad211) t208.length co19 : Value).ownBlock ∧ k_ ≠ gb206 ∧ k_ ≠ gb207)) k_ ∧ some k_ ≠ (u9 : Value).ownBlock)) (HL213_4.out) (fun k_ hk => ⟨⟨hk.1.1, ⟨hk.2, ⟨hk.1.2.2.1, hk.1.2.2.2⟩⟩⟩, hk.1.2.1⟩))).2.1 (Kd.V_F (Kd.V_mono (ok' := (fun k_ => ((fun k_ => ((P0_2_ k_ ∨ P2_ k_) ∨ w.heap.size ≤ k_) ∧ some k_ ≠ (.slice (some ad211) t208.length co19 : Value).ownBlock ∧ k_ ≠ gb206 ∧ k_ ≠ gb207)) k_ ∧ some k_ ≠ (u9 : Value).ownBlock)) (HL213_4.out) (fun k_ hk => ⟨⟨hk.1.1, ⟨hk.2, ⟨hk.1.2.2.1, hk.1.2.2.2⟩⟩⟩, hk.1.2.1⟩))))); (case aB => exact (by repeat (first | (with_reducible first | exact HB.out | apply below_alloc | apply pw_below_drewN | apply below_drew1 | refine below_set ?_ GE206.out | refine below_set ?_ GE207.out) | exact HB.out))); (case aF => exact (fun k_ hk => ⟨(.inr (Nat.le_trans (below_size (by repeat (first | (with_reducible first | exact HB.out | apply below_alloc | apply pw_below_drewN | apply below_drew1 | refine below_set ?_ GE206.out | refine below_set ?_ GE207.out) | exact HB.out))) hk)), Kd.fresh' (Kd.N_lt (Kd.pN HO_8.out)) k_ hk, Kd.freshB (g := gb206) (o := .cells #[.int .i64 a0_0, .int .i64 a0_1, .slice A0_2 l0_2.length c0_2] 24 (0, 0)) (pB BK206.out) k_ hk, Kd.freshB (g := gb207) (o := .cells #[.string a1_0, .int .i64 a1_1, .int .i64 a1_2, .slice A1_3 l1_3.length c1_3, .slice A1_4 l1_4.length c1_4, .int .i64 a1_5, .int .i64 a1_6] 37 (0, 0)) (pB BK207.out) k_ hk⟩)); (case aO => exact (Kd.pN HO_9.out)); (case aS => exact (below_size (by repeat (first | (with_reducible first | exact HB.out | apply below_alloc | apply pw_below_drewN | apply below_drew1 | refine below_set ?_ GE206.out | refine below_set ?_ GE207.out) | exact HB.out)))); (case aL => have := LMc16.out; omega); intro v215 w20 ho hb hg hat; rw [← Ny214.out] at ho; have n0_ := Aside0.mk (Kd.V_afterv (ok := (fun k_ => ((P0_2_ k_ ∨ P2_ k_) ∨ w.heap.size ≤ k_) ∧ some k_ ≠ (.slice (some ad211) t208.length co19 : Value).ownBlock ∧ k_ ≠ gb206 ∧ k_ ≠ gb207)) (Kd.pV (Kd.V_mono HO_2.out (fun _ hk => ⟨⟨hk.1, ⟨hk.2.1, ⟨hk.2.2.2.1, hk.2.2.2.2⟩⟩⟩, hk.2.2.1⟩))) hg hat); have n1_ := Aside0.mk (Kd.N_afterv (ok := (fun k_ => ((P0_2_ k_ ∨ P2_ k_) ∨ w.heap.size ≤ k_) ∧ k_ ≠ gb206 ∧ k_ ≠ gb207)) (Kd.pN (Kd.N_mono HO_8.out (fun _ hk => ⟨⟨hk.1, ⟨hk.2.2.1, hk.2.2.2⟩⟩, hk.2.1⟩))) hg hat); have n2_ := Aside0.mk (Kd.V_afterv (ok := (fun k_ => ((P0_2_ k_ ∨ P2_ k_) ∨ w.heap.size ≤ k_) ∧ some k_ ≠ (.slice (some ad211) t208.length co19 : Value).ownBlock ∧ k_ ≠ gb206 ∧ k_ ≠ gb207)) (Kd.pV (Kd.V_mono HO_10.out (fun _ hk => ⟨⟨hk.1, ⟨hk.2.1, ⟨hk.2.2.2.1, hk.2.2.2.2⟩⟩⟩, hk.2.2.1⟩))) hg hat); have n3_ := Aside0.mk (Kd.V_afterv (ok := (fun k_ => ((P0_2_ k_ ∨ P2_ k_) ∨ w.heap.size ≤ k_) ∧ some k_ ≠ (.slice (some ad211) t208.length co19 : Value).ownBlock ∧ k_ ≠ gb206 ∧ k_ ≠ gb207)) (Kd.pV (Kd.V_mono HO_207002.out (fun _ hk => ⟨⟨hk.1, ⟨hk.2.1, ⟨hk.2.2.2.1, hk.2.2.2.2⟩⟩⟩, hk.2.2.1⟩))) hg hat); have n4_ := Aside0.mk (blk_grown (g := gb206) (o := .cells #[.int .i64 a0_0, .int .i64 a0_1, .slice A0_2 l0_2.length c0_2] 24 (0, 0)) (pB BK206.out) hg (Kd.N_ne HO_9.out BK206.out (by decide))); have n5_ := Aside0.mk (blk_grown (g := gb207) (o := .cells #[.string a1_0, .int .i64 a1_1, .int .i64 a1_2, .slice A1_3 l1_3.length c1_3, .slice A1_4 l1_4.length c1_4, .int .i64 a1_5, .int .i64 a1_6] 37 (0, 0)) (pB BK207.out) hg (Kd.N_away HO_9.out (fun _ hk => hk.2.2.2))); have n6_ := Aside0.mk (Kd.V_afterv (ok := (fun k_ => ((P0_2_ k_ ∨ P2_ k_) ∨ w.heap.size ≤ k_) ∧ some k_ ≠ (.slice (some ad211) t208.length co19 : Value).ownBlock ∧ k_ ≠ gb206 ∧ k_ ≠ gb207)) (Kd.pV (Kd.V_mono HL211_3.out (fun _ hk => ⟨⟨hk.1.1, ⟨hk.2, ⟨hk.1.2.2.1, hk.1.2.2.2⟩⟩⟩, hk.1.2.1⟩))) hg hat); have n7_ := Aside0.mk (Kd.V_afterv (ok := (fun k_ => ((P0_2_ k_ ∨ P2_ k_) ∨ w.heap.size ≤ k_) ∧ some k_ ≠ (.slice (some ad211) t208.length co19 : Value).ownBlock ∧ k_ ≠ gb206 ∧ k_ ≠ gb207)) (Kd.pV (Kd.V_mono HL211_4.out (fun _ hk => ⟨⟨hk.1.1, ⟨hk.2, ⟨hk.1.2.2.1, hk.1.2.2.2⟩⟩⟩, hk.1.2.1⟩))) hg hat); have n8_ := Aside0.mk (Kd.V_afterv (ok := (fun k_ => ((P0_2_ k_ ∨ P2_ k_) ∨ w.heap.size ≤ k_) ∧ some k_ ≠ (.slice (some ad211) t208.length co19 : Value).ownBlock ∧ k_ ≠ gb206 ∧ k_ ≠ gb207)) (Kd.pV (Kd.V_mono HL213_3.out (fun _ hk => ⟨⟨hk.1.1, ⟨hk.2, ⟨hk.1.2.2.1, hk.1.2.2.2⟩⟩⟩, hk.1.2.1⟩))) hg hat); have n9_ := Aside0.mk (Kd.V_afterv (ok := (fun k_ => ((P0_2_ k_ ∨ P2_ k_) ∨ w.heap.size ≤ k_) ∧ some k_ ≠ (.slice (some ad211) t208.length co19 : Value).ownBlock ∧ k_ ≠ gb206 ∧ k_ ≠ gb207)) (Kd.pV (Kd.V_mono HL213_4.out (fun _ hk => ⟨⟨hk.1.1, ⟨hk.2, ⟨hk.1.2.2.1, hk.1.2.2.2⟩⟩⟩, hk.1.2.1⟩))) hg hat); have n10_ := Aside0.mk (hb); have n11_ := Aside0.mk (ho); clear HO_2; clear HO_8; clear HO_10; clear HO_207002; clear BK206; clear BK207; clear HL211_3; clear HL211_4; clear HL213_3; clear HL213_4; clear HB; clear HO_9; have HO_2 := n0_; have HO_8 := n1_; have HO_10 := n2_; have HO_207002 := n3_; have BK206 := n4_; have BK207 := n5_; have HL211_3 := n6_; have HL211_4 := n7_; have HL213_3 := n8_; have HL213_4 := n9_; have HB := n10_; have HO216 := n11_; clear n0_ n1_ n2_ n3_ n4_ n5_ n6_ n7_ n8_ n9_ n10_ n11_; clear ho hb hg hat; have p217 : 0 ≤ (x11_1 : Int) := of_decide_eq_true (by first | (with_reducible assumption) | assumption); have q217 : x11_1 < (t208.length : Int) := of_decide_eq_true (by first | (with_reducible assumption) | assumption); obtain ⟨ad217, A217_3, c217_3, A217_4, c217_4, e217, hx217_0, hx217_1, hx217_2, hx217_3, hx217_4, hx217_5, hx217_6, hl217_3, hi217_3, hl217_4, hi217_4⟩ := at_T37 (Kd.N_reads' HO_8.out).2.2 x11_1 p217 q217; obtain rfl : ad211 = ad217 := (by injection e217); obtain ⟨ce217, hce217, hMe217, hcc217⟩ := Kd.N_get HO_8.out z37 x11_1 p217 (by first | exact q217 | exact of_decide_eq_true (by first | (with_reducible assumption) | assumption) | (have e_ := (Kd.N_reads' HO_8.out).1; omega)); obtain ⟨ua217_3, uc217_3, ua217_4, uc217_4, rfl, ul217_3, ge217_3, ul217_4, ge217_4⟩ := k37_openF hMe217; have hv217_3 := hcc217 3 _ rfl; rw [add_field _ _ 3 (by omega)] at hv217_3; replace hv217_3 := Option.some.inj (hv217_3.symm.trans hx217_3); injection hv217_3 with hva_ hvn_ hvc_; rw [hva_] at ge217_3; rw [hvc_] at ul217_3; have HL217_3 := Aside0.mk (show Kd.V k129 129 _ w.heap.size _ _ ((rd_T37 t208 x11_1).f1.f2) from Kd.V_mk ul217_3 ge217_3); clear hva_ hvn_ hvc_ ge217_3 ul217_3; have hv217_4 := hcc217 4 _ rfl; rw [add_field _ _ 4 (by omega)] at hv217_4; replace hv217_4 := Option.some.inj (hv217_4.symm.trans hx217_4); injection hv217_4 with hva_ hvn_ hvc_; rw [hva_] at ge217_4; rw [hvc_] at ul217_4; have HL217_4 := Aside0.mk (show Kd.V Kd.string 9 _ w.heap.size _ _ ((rd_T37 t208 x11_1).f1.f3) from Kd.V_mk ul217_4 ge217_4); clear hva_ hvn_ hvc_ ge217_4 ul217_4; clear hcc217 hce217; have HR217_3 := Aside0.mk hi217_3; have HC217_3 := Aside0.mk hl217_3; clear hi217_3 hl217_3; have HR217_4 := Aside0.mk hi217_4; have HC217_4 := Aside0.mk hl217_4; clear hi217_4 hl217_4; replace p217 := eq_true p217; replace q217 := eq_true q217; obtain ⟨Ao21, co21, eo21⟩ := Kd.V_slice HO_10.out; subst eo21) | ((with_reducible refine gate_callee (f := 32) rfl ?_); refine goesL_ (some 50) rfl rfl Try.func32 (by kernel_rfl) rfl #[.slice Ao21 x10_1.length co21, .string ((rd_T37 t208 x11_1).f0)] rfl (by (try simp only [List.map_toArray, List.map_cons, List.map_nil]); first | done | rfl | (simp only [List.length_drop, List.length_take]; rfl)) ?_; (with_reducible refine (selvedgeref14_Has.calls k1 _ _ x10_1 ((rd_T37 t208 x11_1).f0) true _ ?side1 ?side2 A17.out).mono ?_); (case side1 => repeat (first | exact (Kd.V_reads' HO_10.out).2.2 | (with_reducible refine Kd.C_alloc ?_ _) | (with_reducible refine Kd.C_drewN ?_ _) | (with_reducible refine Kd.C_drew ?_))); (case side2 => exact (Kd.V_reads' HO_10.out).2.1); rintro e w' ⟨rfl, ⟨nd, rfl⟩⟩; refine ⟨_, rfl, ?_⟩))
        go_roundg k1
        case measure => have := HK1.out; omega
        case rel => exact ⟨(y214), (x10_1), (wrap64 (x11_1 + 1)), (by first | rfl | (simp; done) | (simp [*]; done)), H', ⟨by have := HK1.out; omega⟩, ⟨by (with_reducible repeat (first | apply Kd.V_alloc | apply Kd.V_drewN | apply Kd.V_drew)); exact Kd.V_mono HO_2.out (fun _ hk => ⟨hk.1.1, ⟨hk.1.2.1, ⟨hk.2, ⟨hk.1.2.2.1, hk.1.2.2.2⟩⟩⟩⟩)⟩, ⟨by (with_reducible repeat (first | apply Kd.N_alloc | apply Kd.N_drewN | apply Kd.N_drew)); exact Kd.N_mono HO_8.out (fun _ hk => ⟨hk.1.1, ⟨hk.2, ⟨hk.1.2.1, hk.1.2.2⟩⟩⟩)⟩, ⟨by (with_reducible repeat (first | apply Kd.N_alloc | apply Kd.N_drewN | apply Kd.N_drew)); exact HO216.out⟩, ⟨by (with_reducible repeat (first | apply Kd.V_alloc | apply Kd.V_drewN | apply Kd.V_drew)); exact Kd.V_mono HO_10.out (fun _ hk => ⟨hk.1.1, ⟨hk.1.2.1, ⟨hk.2, ⟨hk.1.2.2.1, hk.1.2.2.2⟩⟩⟩⟩)⟩, ⟨by (with_reducible repeat (first | apply Kd.V_alloc | apply Kd.V_drewN | apply Kd.V_drew)); exact Kd.V_mono HO_207002.out (fun _ hk => ⟨hk.1.1, ⟨hk.1.2.1, ⟨hk.2, ⟨hk.1.2.2.1, hk.1.2.2.2⟩⟩⟩⟩)⟩, ⟨by (with_reducible repeat (first | refine blk_drewN ?_ _ | refine blk_drew ?_ | refine blk_alloc ?_ _)); exact BK206.out⟩, ⟨by (with_reducible repeat (first | refine blk_drewN ?_ _ | refine blk_drew ?_ | refine blk_alloc ?_ _)); exact BK207.out⟩, ⟨by repeat (first | (with_reducible first | exact HB.out | apply below_alloc | apply pw_below_drewN | apply below_drew1 | refine below_set ?_ GE206.out | refine below_set ?_ GE207.out) | exact HB.out)⟩⟩
       ·
        replace c18 := Bool.eq_false_iff.mpr c18
        subst c18
        have H1 : ((selvedgeref14_put.f k1 x10_1 ((rd_T37 t208 x11_1).f0)).bind fun t220 => (selvedgeref14_Behind.l0 k1 l2 t208 y214 t220 (wrap64 (x11_1 + 1)))) = some (r1, r2) := by rw [if_neg (show ¬ (false = true) by decide)] at H; exact H
        clear H
        have H := H1
        clear H1
        replace H := Option.bind_eq_some_iff.mp H
        obtain ⟨t220, A220, H⟩ := H
        replace H : (selvedgeref14_Behind.l0 k1 l2 t208 y214 t220 (wrap64 (x11_1 + 1))) = some (r1, r2) := H
        have A22 := Aside0.mk A220
        clear A220
        have H' := Aside0.mk H
        clear H
        obtain ⟨Ao23, co23, eo23⟩ := Kd.N_slice HO_8.out
        subst eo23
        have p211 : 0 ≤ (x11_1 : Int) := of_decide_eq_true (by first | (with_reducible assumption) | assumption)
        have q211 : x11_1 < (t208.length : Int) := of_decide_eq_true (by first | (with_reducible assumption) | assumption)
        obtain ⟨ad211, A211_3, c211_3, A211_4, c211_4, e211, hx211_0, hx211_1, hx211_2, hx211_3, hx211_4, hx211_5, hx211_6, hl211_3, hi211_3, hl211_4, hi211_4⟩ := at_T37 (Kd.N_reads' HO_8.out).2.2 x11_1 p211 q211
        cases e211
        obtain ⟨ce211, hce211, hMe211, hcc211⟩ := Kd.N_get HO_8.out z37 x11_1 p211 (by first | exact q211 | exact of_decide_eq_true (by first | (with_reducible assumption) | assumption) | (have e_ := (Kd.N_reads' HO_8.out).1; omega))
        obtain ⟨ua211_3, uc211_3, ua211_4, uc211_4, rfl, ul211_3, ge211_3, ul211_4, ge211_4⟩ := k37_openF hMe211
        have hv211_3 := hcc211 3 _ rfl
        rw [add_field _ _ 3 (by omega)] at hv211_3
        replace hv211_3 := Option.some.inj (hv211_3.symm.trans hx211_3)
        injection hv211_3 with hva_ hvn_ hvc_
        rw [hva_] at ge211_3
        rw [hvc_] at ul211_3
        have HL211_3 := Aside0.mk (show Kd.V k129 129 _ w.heap.size _ _ ((rd_T37 t208 x11_1).f1.f2) from Kd.V_mk ul211_3 ge211_3)
        clear hva_ hvn_ hvc_ ge211_3 ul211_3
        have hv211_4 := hcc211 4 _ rfl
        rw [add_field _ _ 4 (by omega)] at hv211_4
        replace hv211_4 := Option.some.inj (hv211_4.symm.trans hx211_4)
        injection hv211_4 with hva_ hvn_ hvc_
        rw [hva_] at ge211_4
        rw [hvc_] at ul211_4
        have HL211_4 := Aside0.mk (show Kd.V Kd.string 9 _ w.heap.size _ _ ((rd_T37 t208 x11_1).f1.f3) from Kd.V_mk ul211_4 ge211_4)
        clear hva_ hvn_ hvc_ ge211_4 ul211_4
        clear hcc211 hce211
        have HR211_3 := Aside0.mk hi211_3
        have HC211_3 := Aside0.mk hl211_3
        clear hi211_3 hl211_3
        have HR211_4 := Aside0.mk hi211_4
        have HC211_4 := Aside0.mk hl211_4
        clear hi211_4 hl211_4
        replace p211 := eq_true p211
        replace q211 := eq_true q211
        go_wp2_with (first | ((with_reducible refine gate_callee (f := 32) rfl ?_); refine goesL_ (some 35) rfl rfl Try.func32 (by kernel_rfl) rfl #[.slice A2 l2.length c2, .string ((rd_T37 t208 x11_1).f0)] rfl (by (try simp only [List.map_toArray, List.map_cons, List.map_nil]); first | done | rfl | (simp only [List.length_drop, List.length_take]; rfl)) ?_; (with_reducible refine (selvedgeref14_Has.calls k1 _ _ l2 ((rd_T37 t208 x11_1).f0) false _ ?side1 ?side2 A13.out).mono ?_); (case side1 => repeat (first | exact (Kd.V_reads' HO_2.out).2.2 | (with_reducible refine Kd.C_alloc ?_ _) | (with_reducible refine Kd.C_drewN ?_ _) | (with_reducible refine Kd.C_drew ?_))); (case side2 => exact (Kd.V_reads' HO_2.out).2.1); rintro e w' ⟨rfl, ⟨nd, rfl⟩⟩; refine ⟨_, rfl, ?_⟩; have p213 : 0 ≤ (x11_1 : Int) := of_decide_eq_true (by first | (with_reducible assumption) | assumption); have q213 : x11_1 < (t208.length : Int) := of_decide_eq_true (by first | (with_reducible assumption) | assumption); obtain ⟨ad213, A213_3, c213_3, A213_4, c213_4, e213, hx213_0, hx213_1, hx213_2, hx213_3, hx213_4, hx213_5, hx213_6, hl213_3, hi213_3, hl213_4, hi213_4⟩ := at_T37 (Kd.N_reads' HO_8.out).2.2 x11_1 p213 q213; obtain rfl : ad211 = ad213 := (by injection e213); obtain ⟨ce213, hce213, hMe213, hcc213⟩ := Kd.N_get HO_8.out z37 x11_1 p213 (by first | exact q213 | exact of_decide_eq_true (by first | (with_reducible assumption) | assumption) | (have e_ := (Kd.N_reads' HO_8.out).1; omega)); obtain ⟨ua213_3, uc213_3, ua213_4, uc213_4, rfl, ul213_3, ge213_3, ul213_4, ge213_4⟩ := k37_openF hMe213; have hv213_3 := hcc213 3 _ rfl; rw [add_field _ _ 3 (by omega)] at hv213_3; replace hv213_3 := Option.some.inj (hv213_3.symm.trans hx213_3); injection hv213_3 with hva_ hvn_ hvc_; rw [hva_] at ge213_3; rw [hvc_] at ul213_3; have HL213_3 := Aside0.mk (show Kd.V k129 129 _ w.heap.size _ _ ((rd_T37 t208 x11_1).f1.f2) from Kd.V_mk ul213_3 ge213_3); clear hva_ hvn_ hvc_ ge213_3 ul213_3; have hv213_4 := hcc213 4 _ rfl; rw [add_field _ _ 4 (by omega)] at hv213_4; replace hv213_4 := Option.some.inj (hv213_4.symm.trans hx213_4); injection hv213_4 with hva_ hvn_ hvc_; rw [hva_] at ge213_4; rw [hvc_] at ul213_4; have HL213_4 := Aside0.mk (show Kd.V Kd.string 9 _ w.heap.size _ _ ((rd_T37 t208 x11_1).f1.f3) from Kd.V_mk ul213_4 ge213_4); clear hva_ hvn_ hvc_ ge213_4 ul213_4; clear hcc213 hce213; have HR213_3 := Aside0.mk hi213_3; have HC213_3 := Aside0.mk hl213_3; clear hi213_3 hl213_3; have HR213_4 := Aside0.mk hi213_4; have HC213_4 := Aside0.mk hl213_4; clear hi213_4 hl213_4; replace p213 := eq_true p213; replace q213 := eq_true q213; have ea_ := Option.some.inj (hx211_3.symm.trans hx213_3); injection ea_ with ea_ en_ ec_; subst ea_; subst ec_; clear en_; have ea_ := Option.some.inj (hx211_4.symm.trans hx213_4); injection ea_ with ea_ en_ ec_; subst ea_; subst ec_; clear en_) | ((with_reducible refine gate_builtin (b := .append) (xs := #[.tmp 37, .tmp 42]) rfl ?_); at_builtin; refine Kd.N_append k37 (w0 := w) w.heap.size rfl (.tmp 37) (.tmp 42) 22 37 (.agg #[(.string ⟨#[]⟩), (.int .i64 0), (.int .i64 0), (.slice none 0 0), (.slice none 0 0), (.int .i64 0), (.int .i64 0)]) 96 rfl Try.underlying22 info37 rfl (by decide) (by omega) u9 x9_1 (⟨(rd_T37 t208 x11_1).f0, (⟨(rd_T37 t208 x11_1).f1.f0, (rd_T37 t208 x11_1).f1.f1, (rd_T37 t208 x11_1).f1.f2, (rd_T37 t208 x11_1).f1.f3, (⟨(rd_T37 t208 x11_1).f1.f4.f0, (rd_T37 t208 x11_1).f1.f4.f1⟩ : S33)⟩ : S35)⟩ : S37) [.string ((rd_T37 t208 x11_1).f0), .int .i64 ((rd_T37 t208 x11_1).f1.f0), .int .i64 ((rd_T37 t208 x11_1).f1.f1), .slice A211_3 ((rd_T37 t208 x11_1).f1.f2).length c211_3, .slice A211_4 ((rd_T37 t208 x11_1).f1.f3).length c211_4, .int .i64 ((rd_T37 t208 x11_1).f1.f4.f0), .int .i64 ((rd_T37 t208 x11_1).f1.f4.f1)] (fun k_ => ((P0_2_ k_ ∨ P2_ k_) ∨ w.heap.size ≤ k_) ∧ some k_ ≠ (.slice (some ad211) t208.length co23 : Value).ownBlock ∧ k_ ≠ gb206 ∧ k_ ≠ gb207) (fun k_ => ((fun k_ => ((P0_2_ k_ ∨ P2_ k_) ∨ w.heap.size ≤ k_) ∧ some k_ ≠ (.slice (some ad211) t208.length co23 : Value).ownBlock ∧ k_ ≠ gb206 ∧ k_ ≠ gb207)) k_ ∧ some k_ ≠ (u9 : Value).ownBlock) rfl rfl ?aP (fun _ hk => hk) ?aF ?aO ?aB ?aS ?aL ?_; (case aP => exact (k37_mkF _ _ (⟨(rd_T37 t208 x11_1).f0, (⟨(rd_T37 t208 x11_1).f1.f0, (rd_T37 t208 x11_1).f1.f1, (rd_T37 t208 x11_1).f1.f2, (rd_T37 t208 x11_1).f1.f3, (⟨(rd_T37 t208 x11_1).f1.f4.f0, (rd_T37 t208 x11_1).f1.f4.f1⟩ : S33)⟩ : S35)⟩ : S37) (Kd.V_reads' (Kd.V_mono (ok' := (fun k_ => ((fun k_ => ((P0_2_ k_ ∨ P2_ k_) ∨ w.heap.size ≤ k_) ∧ some k_ ≠ (.slice (some ad211) t208.length co23 : Value).ownBlock ∧ k_ ≠ gb206 ∧ k_ ≠ gb207)) k_ ∧ some k_ ≠ (u9 : Value).ownBlock)) (HL213_3.out) (fun k_ hk => ⟨⟨hk.1.1, ⟨hk.2, ⟨hk.1.2.2.1, hk.1.2.2.2⟩⟩⟩, hk.1.2.1⟩))).2.1 (Kd.V_F (Kd.V_mono (ok' := (fun k_ => ((fun k_ => ((P0_2_ k_ ∨ P2_ k_) ∨ w.heap.size ≤ k_) ∧ some k_ ≠ (.slice (some ad211) t208.length co23 : Value).ownBlock ∧ k_ ≠ gb206 ∧ k_ ≠ gb207)) k_ ∧ some k_ ≠ (u9 : Value).ownBlock)) (HL213_3.out) (fun k_ hk => ⟨⟨hk.1.1, ⟨hk.2, ⟨hk.1.2.2.1, hk.1.2.2.2⟩⟩⟩, hk.1.2.1⟩))) (Kd.V_reads' (Kd.V_mono (ok' := (fun k_ => ((fun k_ => ((P0_2_ k_ ∨ P2_ k_) ∨ w.heap.size ≤ k_) ∧ some k_ ≠ (.slice (some ad211) t208.length co23 : Value).ownBlock ∧ k_ ≠ gb206 ∧ k_ ≠ gb207)) k_ ∧ some k_ ≠ (u9 : Value).ownBlock)) (HL213_4.out) (fun k_ hk => ⟨⟨hk.1.1, ⟨hk.2, ⟨hk.1.2.2.1, hk.1.2.2.2⟩⟩⟩, hk.1.2.1⟩))).2.1 (Kd.V_F (Kd.V_mono (ok' := (fun k_ => ((fun k_ => ((P0_2_ k_ ∨ P2_ k_) ∨ w.heap.size ≤ k_) ∧ some k_ ≠ (.slice (some ad211) t208.length co23 : Value).ownBlock ∧ k_ ≠ gb206 ∧ k_ ≠ gb207)) k_ ∧ some k_ ≠ (u9 : Value).ownBlock)) (HL213_4.out) (fun k_ hk => ⟨⟨hk.1.1, ⟨hk.2, ⟨hk.1.2.2.1, hk.1.2.2.2⟩⟩⟩, hk.1.2.1⟩))))); (case aB => exact (by repeat (first | (with_reducible first | exact HB.out | apply below_alloc | apply pw_below_drewN | apply below_drew1 | refine below_set ?_ GE206.out | refine below_set ?_ GE207.out) | exact HB.out))); (case aF => exact (fun k_ hk => ⟨(.inr (Nat.le_trans (below_size (by repeat (first | (with_reducible first | exact HB.out | apply below_alloc | apply pw_below_drewN | apply below_drew1 | refine below_set ?_ GE206.out | refine below_set ?_ GE207.out) | exact HB.out))) hk)), Kd.fresh' (Kd.N_lt (Kd.pN HO_8.out)) k_ hk, Kd.freshB (g := gb206) (o := .cells #[.int .i64 a0_0, .int .i64 a0_1, .slice A0_2 l0_2.length c0_2] 24 (0, 0)) (pB BK206.out) k_ hk, Kd.freshB (g := gb207) (o := .cells #[.string a1_0, .int .i64 a1_1, .int .i64 a1_2, .slice A1_3 l1_3.length c1_3, .slice A1_4 l1_4.length c1_4, .int .i64 a1_5, .int .i64 a1_6] 37 (0, 0)) (pB BK207.out) k_ hk⟩)); (case aO => exact (Kd.pN HO_9.out)); (case aS => exact (below_size (by repeat (first | (with_reducible first | exact HB.out | apply below_alloc | apply pw_below_drewN | apply below_drew1 | refine below_set ?_ GE206.out | refine below_set ?_ GE207.out) | exact HB.out)))); (case aL => have := LMc16.out; omega); intro v215 w24 ho hb hg hat; rw [← Ny214.out] at ho; have n0_ := Aside0.mk (Kd.V_afterv (ok := (fun k_ => ((P0_2_ k_ ∨ P2_ k_) ∨ w.heap.size ≤ k_) ∧ some k_ ≠ (.slice (some ad211) t208.length co23 : Value).ownBlock ∧ k_ ≠ gb206 ∧ k_ ≠ gb207)) (Kd.pV (Kd.V_mono HO_2.out (fun _ hk => ⟨⟨hk.1, ⟨hk.2.1, ⟨hk.2.2.2.1, hk.2.2.2.2⟩⟩⟩, hk.2.2.1⟩))) hg hat); have n1_ := Aside0.mk (Kd.N_afterv (ok := (fun k_ => ((P0_2_ k_ ∨ P2_ k_) ∨ w.heap.size ≤ k_) ∧ k_ ≠ gb206 ∧ k_ ≠ gb207)) (Kd.pN (Kd.N_mono HO_8.out (fun _ hk => ⟨⟨hk.1, ⟨hk.2.2.1, hk.2.2.2⟩⟩, hk.2.1⟩))) hg hat); have n2_ := Aside0.mk (Kd.V_afterv (ok := (fun k_ => ((P0_2_ k_ ∨ P2_ k_) ∨ w.heap.size ≤ k_) ∧ some k_ ≠ (.slice (some ad211) t208.length co23 : Value).ownBlock ∧ k_ ≠ gb206 ∧ k_ ≠ gb207)) (Kd.pV (Kd.V_mono HO_10.out (fun _ hk => ⟨⟨hk.1, ⟨hk.2.1, ⟨hk.2.2.2.1, hk.2.2.2.2⟩⟩⟩, hk.2.2.1⟩))) hg hat); have n3_ := Aside0.mk (Kd.V_afterv (ok := (fun k_ => ((P0_2_ k_ ∨ P2_ k_) ∨ w.heap.size ≤ k_) ∧ some k_ ≠ (.slice (some ad211) t208.length co23 : Value).ownBlock ∧ k_ ≠ gb206 ∧ k_ ≠ gb207)) (Kd.pV (Kd.V_mono HO_207002.out (fun _ hk => ⟨⟨hk.1, ⟨hk.2.1, ⟨hk.2.2.2.1, hk.2.2.2.2⟩⟩⟩, hk.2.2.1⟩))) hg hat); have n4_ := Aside0.mk (blk_grown (g := gb206) (o := .cells #[.int .i64 a0_0, .int .i64 a0_1, .slice A0_2 l0_2.length c0_2] 24 (0, 0)) (pB BK206.out) hg (Kd.N_ne HO_9.out BK206.out (by decide))); have n5_ := Aside0.mk (blk_grown (g := gb207) (o := .cells #[.string a1_0, .int .i64 a1_1, .int .i64 a1_2, .slice A1_3 l1_3.length c1_3, .slice A1_4 l1_4.length c1_4, .int .i64 a1_5, .int .i64 a1_6] 37 (0, 0)) (pB BK207.out) hg (Kd.N_away HO_9.out (fun _ hk => hk.2.2.2))); have n6_ := Aside0.mk (Kd.V_afterv (ok := (fun k_ => ((P0_2_ k_ ∨ P2_ k_) ∨ w.heap.size ≤ k_) ∧ some k_ ≠ (.slice (some ad211) t208.length co23 : Value).ownBlock ∧ k_ ≠ gb206 ∧ k_ ≠ gb207)) (Kd.pV (Kd.V_mono HL211_3.out (fun _ hk => ⟨⟨hk.1.1, ⟨hk.2, ⟨hk.1.2.2.1, hk.1.2.2.2⟩⟩⟩, hk.1.2.1⟩))) hg hat); have n7_ := Aside0.mk (Kd.V_afterv (ok := (fun k_ => ((P0_2_ k_ ∨ P2_ k_) ∨ w.heap.size ≤ k_) ∧ some k_ ≠ (.slice (some ad211) t208.length co23 : Value).ownBlock ∧ k_ ≠ gb206 ∧ k_ ≠ gb207)) (Kd.pV (Kd.V_mono HL211_4.out (fun _ hk => ⟨⟨hk.1.1, ⟨hk.2, ⟨hk.1.2.2.1, hk.1.2.2.2⟩⟩⟩, hk.1.2.1⟩))) hg hat); have n8_ := Aside0.mk (Kd.V_afterv (ok := (fun k_ => ((P0_2_ k_ ∨ P2_ k_) ∨ w.heap.size ≤ k_) ∧ some k_ ≠ (.slice (some ad211) t208.length co23 : Value).ownBlock ∧ k_ ≠ gb206 ∧ k_ ≠ gb207)) (Kd.pV (Kd.V_mono HL213_3.out (fun _ hk => ⟨⟨hk.1.1, ⟨hk.2, ⟨hk.1.2.2.1, hk.1.2.2.2⟩⟩⟩, hk.1.2.1⟩))) hg hat); have n9_ := Aside0.mk (Kd.V_afterv (ok := (fun k_ => ((P0_2_ k_ ∨ P2_ k_) ∨ w.heap.size ≤ k_) ∧ some k_ ≠ (.slice (some ad211) t208.length co23 : Value).ownBlock ∧ k_ ≠ gb206 ∧ k_ ≠ gb207)) (Kd.pV (Kd.V_mono HL213_4.out (fun _ hk => ⟨⟨hk.1.1, ⟨hk.2, ⟨hk.1.2.2.1, hk.1.2.2.2⟩⟩⟩, hk.1.2.1⟩))) hg hat); have n10_ := Aside0.mk (hb); have n11_ := Aside0.mk (ho); clear HO_2; clear HO_8; clear HO_10; clear HO_207002; clear BK206; clear BK207; clear HL211_3; clear HL211_4; clear HL213_3; clear HL213_4; clear HB; clear HO_9; have HO_2 := n0_; have HO_8 := n1_; have HO_10 := n2_; have HO_207002 := n3_; have BK206 := n4_; have BK207 := n5_; have HL211_3 := n6_; have HL211_4 := n7_; have HL213_3 := n8_; have HL213_4 := n9_; have HB := n10_; have HO216 := n11_; clear n0_ n1_ n2_ n3_ n4_ n5_ n6_ n7_ n8_ n9_ n10_ n11_; clear ho hb hg hat; have p217 : 0 ≤ (x11_1 : Int) := of_decide_eq_true (by first | (with_reducible assumption) | assumption); have q217 : x11_1 < (t208.length : Int) := of_decide_eq_true (by first | (with_reducible assumption) | assumption); obtain ⟨ad217, A217_3, c217_3, A217_4, c217_4, e217, hx217_0, hx217_1, hx217_2, hx217_3, hx217_4, hx217_5, hx217_6, hl217_3, hi217_3, hl217_4, hi217_4⟩ := at_T37 (Kd.N_reads' HO_8.out).2.2 x11_1 p217 q217; obtain rfl : ad211 = ad217 := (by injection e217); obtain ⟨ce217, hce217, hMe217, hcc217⟩ := Kd.N_get HO_8.out z37 x11_1 p217 (by first | exact q217 | exact of_decide_eq_true (by first | (with_reducible assumption) | assumption) | (have e_ := (Kd.N_reads' HO_8.out).1; omega)); obtain ⟨ua217_3, uc217_3, ua217_4, uc217_4, rfl, ul217_3, ge217_3, ul217_4, ge217_4⟩ := k37_openF hMe217; have hv217_3 := hcc217 3 _ rfl; rw [add_field _ _ 3 (by omega)] at hv217_3; replace hv217_3 := Option.some.inj (hv217_3.symm.trans hx217_3); injection hv217_3 with hva_ hvn_ hvc_; rw [hva_] at ge217_3; rw [hvc_] at ul217_3; have HL217_3 := Aside0.mk (show Kd.V k129 129 _ w.heap.size _ _ ((rd_T37 t208 x11_1).f1.f2) from Kd.V_mk ul217_3 ge217_3); clear hva_ hvn_ hvc_ ge217_3 ul217_3; have hv217_4 := hcc217 4 _ rfl; rw [add_field _ _ 4 (by omega)] at hv217_4; replace hv217_4 := Option.some.inj (hv217_4.symm.trans hx217_4); injection hv217_4 with hva_ hvn_ hvc_; rw [hva_] at ge217_4; rw [hvc_] at ul217_4; have HL217_4 := Aside0.mk (show Kd.V Kd.string 9 _ w.heap.size _ _ ((rd_T37 t208 x11_1).f1.f3) from Kd.V_mk ul217_4 ge217_4); clear hva_ hvn_ hvc_ ge217_4 ul217_4; clear hcc217 hce217; have HR217_3 := Aside0.mk hi217_3; have HC217_3 := Aside0.mk hl217_3; clear hi217_3 hl217_3; have HR217_4 := Aside0.mk hi217_4; have HC217_4 := Aside0.mk hl217_4; clear hi217_4 hl217_4; replace p217 := eq_true p217; replace q217 := eq_true q217; obtain ⟨Ao25, co25, eo25⟩ := Kd.V_slice HO_10.out; subst eo25) | ((with_reducible refine gate_callee (f := 32) rfl ?_); refine goesL_ (some 50) rfl rfl Try.func32 (by kernel_rfl) rfl #[.slice Ao25 x10_1.length co25, .string ((rd_T37 t208 x11_1).f0)] rfl (by (try simp only [List.map_toArray, List.map_cons, List.map_nil]); first | done | rfl | (simp only [List.length_drop, List.length_take]; rfl)) ?_; (with_reducible refine (selvedgeref14_Has.calls k1 _ _ x10_1 ((rd_T37 t208 x11_1).f0) false _ ?side1 ?side2 A17.out).mono ?_); (case side1 => repeat (first | exact (Kd.V_reads' HO_10.out).2.2 | (with_reducible refine Kd.C_alloc ?_ _) | (with_reducible refine Kd.C_drewN ?_ _) | (with_reducible refine Kd.C_drew ?_))); (case side2 => exact (Kd.V_reads' HO_10.out).2.1); rintro e w' ⟨rfl, ⟨nd, rfl⟩⟩; refine ⟨_, rfl, ?_⟩; have p219 : 0 ≤ (x11_1 : Int) := of_decide_eq_true (by first | (with_reducible assumption) | assumption); have q219 : x11_1 < (t208.length : Int) := of_decide_eq_true (by first | (with_reducible assumption) | assumption); obtain ⟨ad219, A219_3, c219_3, A219_4, c219_4, e219, hx219_0, hx219_1, hx219_2, hx219_3, hx219_4, hx219_5, hx219_6, hl219_3, hi219_3, hl219_4, hi219_4⟩ := at_T37 (Kd.N_reads' HO_8.out).2.2 x11_1 p219 q219; obtain rfl : ad211 = ad219 := (by injection e219); obtain ⟨ce219, hce219, hMe219, hcc219⟩ := Kd.N_get HO_8.out z37 x11_1 p219 (by first | exact q219 | exact of_decide_eq_true (by first | (with_reducible assumption) | assumption) | (have e_ := (Kd.N_reads' HO_8.out).1; omega)); obtain ⟨ua219_3, uc219_3, ua219_4, uc219_4, rfl, ul219_3, ge219_3, ul219_4, ge219_4⟩ := k37_openF hMe219; have hv219_3 := hcc219 3 _ rfl; rw [add_field _ _ 3 (by omega)] at hv219_3; replace hv219_3 := Option.some.inj (hv219_3.symm.trans hx219_3); injection hv219_3 with hva_ hvn_ hvc_; rw [hva_] at ge219_3; rw [hvc_] at ul219_3; have HL219_3 := Aside0.mk (show Kd.V k129 129 _ w.heap.size _ _ ((rd_T37 t208 x11_1).f1.f2) from Kd.V_mk ul219_3 ge219_3); clear hva_ hvn_ hvc_ ge219_3 ul219_3; have hv219_4 := hcc219 4 _ rfl; rw [add_field _ _ 4 (by omega)] at hv219_4; replace hv219_4 := Option.some.inj (hv219_4.symm.trans hx219_4); injection hv219_4 with hva_ hvn_ hvc_; rw [hva_] at ge219_4; rw [hvc_] at ul219_4; have HL219_4 := Aside0.mk (show Kd.V Kd.string 9 _ w.heap.size _ _ ((rd_T37 t208 x11_1).f1.f3) from Kd.V_mk ul219_4 ge219_4); clear hva_ hvn_ hvc_ ge219_4 ul219_4; clear hcc219 hce219; have HR219_3 := Aside0.mk hi219_3; have HC219_3 := Aside0.mk hl219_3; clear hi219_3 hl219_3; have HR219_4 := Aside0.mk hi219_4; have HC219_4 := Aside0.mk hl219_4; clear hi219_4 hl219_4; replace p219 := eq_true p219; replace q219 := eq_true q219; have ea_ := Option.some.inj (hx217_3.symm.trans hx219_3); injection ea_ with ea_ en_ ec_; subst ea_; subst ec_; clear en_; have ea_ := Option.some.inj (hx217_4.symm.trans hx219_4); injection ea_ with ea_ en_ ec_; subst ea_; subst ec_; clear en_) | ((with_reducible refine gate_callee (f := 56) rfl ?_); refine goesL_ (some 59) rfl rfl Try.func56 (by kernel_rfl) rfl #[.slice Ao25 x10_1.length co25, .string ((rd_T37 t208 x11_1).f0)] rfl (by (try simp only [List.map_toArray, List.map_cons, List.map_nil]); first | done | rfl | (simp only [List.length_drop, List.length_take]; rfl)) ?_; (with_reducible refine (selvedgeref14_put.calls k1 _ _ x10_1 ((rd_T37 t208 x11_1).f0) t220 _ ?side1 ?side2 A22.out).mono ?_); (case side1 => repeat (first | exact (Kd.V_reads' HO_10.out).2.2 | (with_reducible refine Kd.C_alloc ?_ _) | (with_reducible refine Kd.C_drewN ?_ _) | (with_reducible refine Kd.C_drew ?_))); (case side2 => exact (Kd.V_reads' HO_10.out).2.1); rintro e w26 ⟨v221, rfl, ho0, hb⟩; refine ⟨_, rfl, ?_⟩; have n0_ := Aside0.mk (Kd.V_elder' (Kd.pV HO_2.out) (Kd.R_base ho0) hb); have n1_ := Aside0.mk (Kd.N_elder' (Kd.pN HO_8.out) (Kd.R_base ho0) hb); have n2_ := Aside0.mk (Kd.V_elder' (Kd.pV HO_10.out) (Kd.R_base ho0) hb); have n3_ := Aside0.mk (Kd.V_elder' (Kd.pV HO_207002.out) (Kd.R_base ho0) hb); have n8_ := Aside0.mk (Kd.N_elder' (Kd.pN HO216.out) (Kd.R_base ho0) hb); have n13_ := Aside0.mk (Kd.R_lower (Kd.R_newM (M := fun k_ => (w.heap.size ≤ k_)) ho0 (below_size (by repeat (first | (with_reducible first | exact HB.out | apply below_alloc | apply pw_below_drewN | apply below_drew1 | refine below_set ?_ GE206.out | refine below_set ?_ GE207.out) | exact HB.out))) (fun k_ h_ => h_)) (below_size (by repeat (first | (with_reducible first | exact HB.out | apply below_alloc | apply pw_below_drewN | apply below_drew1 | refine below_set ?_ GE206.out | refine below_set ?_ GE207.out) | exact HB.out)))); have n14_ := Aside0.mk (blk_below (g := gb206) (o := .cells #[.int .i64 a0_0, .int .i64 a0_1, .slice A0_2 l0_2.length c0_2] 24 (0, 0)) (pB BK206.out) hb); have n15_ := Aside0.mk (blk_below (g := gb207) (o := .cells #[.string a1_0, .int .i64 a1_1, .int .i64 a1_2, .slice A1_3 l1_3.length c1_3, .slice A1_4 l1_4.length c1_4, .int .i64 a1_5, .int .i64 a1_6] 37 (0, 0)) (pB BK207.out) hb); have n20_ := Aside0.mk (below_step (by repeat (first | (with_reducible first | exact HB.out | apply below_alloc | apply pw_below_drewN | apply below_drew1 | refine below_set ?_ GE206.out | refine below_set ?_ GE207.out) | exact HB.out)) hb); clear HO_2; clear HO_8; clear HO_10; clear HO_207002; clear HL211_3; clear HL211_4; clear HL213_3; clear HL213_4; clear HO216; clear HL217_3; clear HL217_4; clear HL219_3; clear HL219_4; clear BK206; clear BK207; clear HR217_3; clear HR217_4; clear HR219_3; clear HR219_4; clear HB; have HO_2 := n0_; have HO_8 := n1_; have HO_10 := n2_; have HO_207002 := n3_; have HO216 := n8_; have HO222 := n13_; have BK206 := n14_; have BK207 := n15_; have HB := n20_; clear n0_ n1_ n2_ n3_ n8_ n13_ n14_ n15_ n20_; (try clear hb); (try clear hb2); (try clear hk); (try clear hi); (try clear ho0)))
        go_roundg k1
        case measure => have := HK1.out; omega
        case rel => exact ⟨(y214), (t220), (wrap64 (x11_1 + 1)), (by first | rfl | (simp; done) | (simp [*]; done)), H', ⟨by have := HK1.out; omega⟩, ⟨by (with_reducible repeat (first | apply Kd.V_alloc | apply Kd.V_drewN | apply Kd.V_drew)); exact Kd.V_mono HO_2.out (fun _ hk => ⟨hk.1.1.1, ⟨hk.1.1.2.1, ⟨hk.1.2, ⟨hk.1.1.2.2.1, hk.1.1.2.2.2⟩⟩⟩⟩)⟩, ⟨by (with_reducible repeat (first | apply Kd.N_alloc | apply Kd.N_drewN | apply Kd.N_drew)); exact Kd.N_mono HO_8.out (fun _ hk => ⟨hk.1.1.1, ⟨hk.1.2, ⟨hk.1.1.2.1, hk.1.1.2.2⟩⟩⟩)⟩, ⟨by (with_reducible repeat (first | apply Kd.N_alloc | apply Kd.N_drewN | apply Kd.N_drew)); exact Kd.N_mono HO216.out (fun _ hk => ⟨hk.1.1, ⟨hk.1.2.1, ⟨hk.1.2.2.1, hk.1.2.2.2⟩⟩⟩)⟩, ⟨Kd.V_mono (Kd.R_V (Kd.pR (Kd.R_mono (Kd.R_types (Kd.R_types (Kd.R_apart' (Kd.R_apart' HO222.out (Kd.N_typed HO_8.out) (by decide)) (Kd.N_typed HO216.out) (by decide)) BK206.out (by decide)) BK207.out (by decide)) (fun _ hk => (⟨hk.1.1.1.1.1, ⟨hk.1.1.1.2, ⟨hk.1.1.2, ⟨hk.1.2, hk.2⟩⟩⟩⟩ : _ ∧ (_ ∧ (_ ∧ (_ ∧ _)))))))) (fun k_ hk => by first | exact ⟨(.inr (hk.1)), hk.2⟩ | exact (.inr (hk)))⟩, ⟨by (with_reducible repeat (first | apply Kd.V_alloc | apply Kd.V_drewN | apply Kd.V_drew)); exact Kd.V_mono HO_207002.out (fun _ hk => ⟨hk.1.1.1, ⟨hk.1.1.2.1, ⟨hk.1.2, ⟨hk.1.1.2.2.1, hk.1.1.2.2.2⟩⟩⟩⟩)⟩, ⟨by (with_reducible repeat (first | refine blk_drewN ?_ _ | refine blk_drew ?_ | refine blk_alloc ?_ _)); exact BK206.out⟩, ⟨by (with_reducible repeat (first | refine blk_drewN ?_ _ | refine blk_drew ?_ | refine blk_alloc ?_ _)); exact BK207.out⟩, ⟨by repeat (first | (with_reducible first | exact HB.out | apply below_alloc | apply pw_below_drewN | apply below_drew1 | refine below_set ?_ GE206.out | refine below_set ?_ GE207.out) | exact HB.out)⟩⟩
      ·
       rw [if_neg c16] at H
       exact absurd H (by simp)
    ·
     rw [if_neg c12] at H
     exact absurd H (by simp)
   ·
    rw [if_neg c11] at H
    have c11b0 : decide (x11_1 < (t208.length : Int)) = false := decide_eq_false c11
    clear c11
    simp only [Option.some.injEq, Prod.mk.injEq] at H
    obtain ⟨rfl, rfl⟩ := H
    obtain ⟨Ao27, co27, eo27⟩ := Kd.N_slice HO_8.out
    subst eo27
    go_wp2
    go_ret2
    exact ⟨_, _, by first | rfl | (simp [errW_none, errW_some] <;> rfl) | (simp [*, errW_none, errW_some] <;> rfl), by (with_reducible repeat (first | apply Kd.N_alloc | apply Kd.N_drewN | apply Kd.N_drew)); exact Kd.N_mono HO_9.out (fun _ hk => hk.1), by (with_reducible repeat (first | apply Kd.V_alloc | apply Kd.V_drewN | apply Kd.V_drew)); exact Kd.V_mono HO_10.out (fun _ hk => ⟨hk.1, hk.2.2.1⟩), by repeat (first | (with_reducible first | exact HB.out | apply below_alloc | apply pw_below_drewN | apply below_drew1 | refine below_set ?_ GE206.out | refine below_set ?_ GE207.out) | exact HB.out)⟩

def selvedgeref01_Same.l0 : Nat → List ByteArray → List ByteArray → Int → Option (Bool)
 | 0, _, _, _ => none
 | k + 1, x0, x1, x5 => if x5 < (x0.length : Int) then (if 0 ≤ x5 then (if x5 < (x1.length : Int) then (if (rdOf ByteArray.empty x0 x5).toList = (rdOf ByteArray.empty x1 x5).toList then (selvedgeref01_Same.l0 k x0 x1 (wrap64 (x5 + 1))) else (some false)) else (none)) else (none)) else (some true)
def selvedgeref01_Same.f (k : Nat) (l0 : List ByteArray) (l1 : List ByteArray) : Option (Bool) := if (l0.length : Int) = (l1.length : Int) then (selvedgeref01_Same.l0 k l0 l1 0) else (some false)
set_option maxHeartbeats 8000000 in
set_option maxRecDepth 100000 in
theorem selvedgeref01_Same.calls (k : Nat) (A0 : Option Addr) (c0 : Nat) (l0 : List ByteArray) (A1 : Option Addr) (c1 : Nat) (l1 : List ByteArray) (r : Bool) (w : World) (hr0 : Kd.C Kd.string w A0 l0.length l0) (hc0 : l0.length ≤ c0) (hr1 : Kd.C Kd.string w A1 l1.length l1) (hc1 : l1.length ≤ c1) (h : selvedgeref01_Same.f k l0 l1 = some r) :
  Calls Try.prog 29 #[.slice A0 l0.length c0, .slice A1 l1.length c1] w fun e w' => e = .returned (.bool r) ∧ Drawn0 w w' := by
 have HR0 := Aside0.mk hr0
 have HC0 := Aside0.mk hc0
 clear hr0 hc0
 have HR1 := Aside0.mk hr1
 have HC1 := Aside0.mk hc1
 clear hr1 hc1
 have H : (if (l0.length : Int) = (l1.length : Int) then (selvedgeref01_Same.l0 k l0 l1 0) else (some false)) = some r := h
 clear h
 by_cases c3 : (l0.length : Int) = (l1.length : Int)
 ·
  rw [if_pos c3] at H
  have c3b0 : ((l0.length : Int) == (l1.length : Int)) = true := beq_iff_eq.mpr c3
  have c3b1 : ((l0.length : Int) != (l1.length : Int)) = false := bne_eq_false_iff_eq.mpr c3
  have c3b2 : (l0.length == l1.length) = true := by first | simpa using c3 | (simp at c3 ⊢; omega)
  clear c3
  have H' := Aside0.mk H
  clear H
  go_enter Try.func29, Try.ntmps29
  go_wp2
  repeat (go_quiet (fail); try go_wp2)
  go_loopg [5] k (fun kq v5 w' => ∃ (x5_1 : Int), v5 = .int .i64 x5_1 ∧ Aside0 (selvedgeref01_Same.l0 kq l0 l1 x5_1 = some r) ∧ Aside0 (kq ≤ k) ∧ Drawn0 w w')
  case atStart => exact ⟨(0), (by first | rfl | (simp; done) | (simp [*]; done)), H', ⟨Nat.le_refl _⟩, by repeat (first | exact Drawn0.refl _ | apply Drawn0.step)⟩
  case round =>
   clear H'
   try clear c1
   try clear c2
   try clear p2
   try clear c3
   try clear c3b0
   try clear c3b1
   try clear c3b2
   obtain ⟨x5_1, rfl, HA, HK1, ⟨m1, rfl⟩⟩ := hrel
   cases gk with
   | zero => exact absurd HA.out (by simp [selvedgeref01_Same.l0])
   | succ k1 =>
    have H := HA.out
    clear HA
    simp only [selvedgeref01_Same.l0] at H
    by_cases c4 : x5_1 < (l0.length : Int)
    ·
     rw [if_pos c4] at H
     have c4b0 : decide (x5_1 < (l0.length : Int)) = true := decide_eq_true c4
     clear c4
     by_cases c5 : 0 ≤ x5_1
     ·
      rw [if_pos c5] at H
      have c5b0 : decide (0 ≤ x5_1) = true := decide_eq_true c5
      clear c5
      by_cases c6 : x5_1 < (l1.length : Int)
      ·
       rw [if_pos c6] at H
       have c6b0 : decide (x5_1 < (l1.length : Int)) = true := decide_eq_true c6
       clear c6
       by_cases c7 : (rdOf ByteArray.empty l0 x5_1).toList = (rdOf ByteArray.empty l1 x5_1).toList
       ·
        rw [if_pos c7] at H
        have c7b0 : ((rdOf ByteArray.empty l0 x5_1).toList == (rdOf ByteArray.empty l1 x5_1).toList) = true := beq_iff_eq.mpr c7
        have c7b1 : ((rdOf ByteArray.empty l0 x5_1).toList != (rdOf ByteArray.empty l1 x5_1).toList) = false := bne_eq_false_iff_eq.mpr c7
        clear c7
        have H' := Aside0.mk H
        clear H
        have p223 : 0 ≤ (x5_1 : Int) := of_decide_eq_true (by first | (with_reducible assumption) | assumption)
        have q223 : x5_1 < (l0.length : Int) := of_decide_eq_true (by first | (with_reducible assumption) | assumption)
        obtain ⟨ad223, e223, hx223_0⟩ := Kd.at_string HR0.out x5_1 p223 q223
        cases e223
        replace p223 := eq_true p223
        replace q223 := eq_true q223
        have p224 : 0 ≤ (x5_1 : Int) := of_decide_eq_true (by first | (with_reducible assumption) | assumption)
        have q224 : x5_1 < (l1.length : Int) := of_decide_eq_true (by first | (with_reducible assumption) | assumption)
        obtain ⟨ad224, e224, hx224_0⟩ := Kd.at_string HR1.out x5_1 p224 q224
        cases e224
        replace p224 := eq_true p224
        replace q224 := eq_true q224
        go_wp2
        repeat (go_quiet (fail); try go_wp2)
        go_roundg k1
        case measure => have := HK1.out; omega
        case rel => exact ⟨(wrap64 (x5_1 + 1)), (by first | rfl | (simp; done) | (simp [*]; done)), H', ⟨by have := HK1.out; omega⟩, by repeat (first | exact Drawn0.refl _ | apply Drawn0.step)⟩
       ·
        rw [if_neg c7] at H
        have c7b0 : ((rdOf ByteArray.empty l0 x5_1).toList == (rdOf ByteArray.empty l1 x5_1).toList) = false := beq_eq_false_iff_ne.mpr c7
        have c7b1 : ((rdOf ByteArray.empty l0 x5_1).toList != (rdOf ByteArray.empty l1 x5_1).toList) = true := bne_iff_ne.mpr c7
        obtain rfl := Option.some.inj H
        have p223 : 0 ≤ (x5_1 : Int) := of_decide_eq_true (by first | (with_reducible assumption) | assumption)
        have q223 : x5_1 < (l0.length : Int) := of_decide_eq_true (by first | (with_reducible assumption) | assumption)
        obtain ⟨ad223, e223, hx223_0⟩ := Kd.at_string HR0.out x5_1 p223 q223
        cases e223
        replace p223 := eq_true p223
        replace q223 := eq_true q223
        have p224 : 0 ≤ (x5_1 : Int) := of_decide_eq_true (by first | (with_reducible assumption) | assumption)
        have q224 : x5_1 < (l1.length : Int) := of_decide_eq_true (by first | (with_reducible assumption) | assumption)
        obtain ⟨ad224, e224, hx224_0⟩ := Kd.at_string HR1.out x5_1 p224 q224
        cases e224
        replace p224 := eq_true p224
        replace q224 := eq_true q224
        go_wp2
        repeat (go_quiet (fail); try go_wp2)
        go_ret
        exact ⟨by first | rfl | (simp; done) | (simp [*]; done), by repeat (first | exact Drawn0.refl _ | apply Drawn0.step)⟩
      ·
       rw [if_neg c6] at H
       exact absurd H (by simp)
     ·
      rw [if_neg c5] at H
      exact absurd H (by simp)
    ·
     rw [if_neg c4] at H
     have c4b0 : decide (x5_1 < (l0.length : Int)) = false := decide_eq_false c4
     clear c4
     obtain rfl := Option.some.inj H
     go_wp2
     repeat (go_quiet (fail); try go_wp2)
     go_ret
     exact ⟨by first | rfl | (simp; done) | (simp [*]; done), by repeat (first | exact Drawn0.refl _ | apply Drawn0.step)⟩
 ·
  rw [if_neg c3] at H
  have c3b0 : ((l0.length : Int) == (l1.length : Int)) = false := beq_eq_false_iff_ne.mpr c3
  have c3b1 : ((l0.length : Int) != (l1.length : Int)) = true := bne_iff_ne.mpr c3
  have c3b2 : (l0.length == l1.length) = false := by first | simpa using c3 | (simp at c3 ⊢; omega)
  obtain rfl := Option.some.inj H
  go_enter Try.func29, Try.ntmps29
  go_wp2
  repeat (go_quiet (fail); try go_wp2)
  go_ret
  exact ⟨by first | rfl | (simp; done) | (simp [*]; done), by repeat (first | exact Drawn0.refl _ | apply Drawn0.step)⟩

def selvedgeref07_Same.f (k : Nat) (a0_0 : Int) (a0_1 : Int) (l0_2 : List ByteArray) (a1_0 : Int) (a1_1 : Int) (l1_2 : List ByteArray) : Option (Bool) := (selvedgeref01_Same.f k l0_2 l1_2).bind fun t227 => (if t227 = true then (if a0_0 = a1_0 then (some (a0_1 == a1_1)) else (some false)) else (some false))
set_option maxHeartbeats 8000000 in
set_option maxRecDepth 100000 in
theorem selvedgeref07_Same.calls (k : Nat) (a0_0 : Int) (a0_1 : Int) (A0_2 : Option Addr) (c0_2 : Nat) (l0_2 : List ByteArray) (a1_0 : Int) (a1_1 : Int) (A1_2 : Option Addr) (c1_2 : Nat) (l1_2 : List ByteArray) (r : Bool) (w : World) (hr0_2 : Kd.C Kd.string w A0_2 l0_2.length l0_2) (hc0_2 : l0_2.length ≤ c0_2) (hr1_2 : Kd.C Kd.string w A1_2 l1_2.length l1_2) (hc1_2 : l1_2.length ≤ c1_2) (h : selvedgeref07_Same.f k a0_0 a0_1 l0_2 a1_0 a1_1 l1_2 = some r) :
  Calls Try.prog 102 #[.agg #[.int .i64 a0_0, .int .i64 a0_1, .slice A0_2 l0_2.length c0_2], .agg #[.int .i64 a1_0, .int .i64 a1_1, .slice A1_2 l1_2.length c1_2]] w fun e w' => e = .returned (.bool r) ∧ Below w.heap.size w w' := by
 have hu129 := Try.underlying129
 have HR0_2 := Aside0.mk hr0_2
 have HC0_2 := Aside0.mk hc0_2
 clear hr0_2 hc0_2
 have HR1_2 := Aside0.mk hr1_2
 have HC1_2 := Aside0.mk hc1_2
 clear hr1_2 hc1_2
 have HB := Aside0.mk (Below.refl w.heap.size w)
 have H : ((selvedgeref01_Same.f k l0_2 l1_2).bind fun t227 => (if t227 = true then (if a0_0 = a1_0 then (some (a0_1 == a1_1)) else (some false)) else (some false))) = some r := h
 clear h
 replace H := Option.bind_eq_some_iff.mp H
 obtain ⟨t227, A30, H⟩ := H
 replace H : (if t227 = true then (if a0_0 = a1_0 then (some (a0_1 == a1_1)) else (some false)) else (some false)) = some r := H
 have A3 := Aside0.mk A30
 clear A30
 by_cases c4 : t227 = true
 ·
  subst c4
  have H1 : (if a0_0 = a1_0 then (some (a0_1 == a1_1)) else (some false)) = some r := by rw [if_pos rfl] at H; exact H
  clear H
  have H := H1
  clear H1
  by_cases c5 : a0_0 = a1_0
  ·
   rw [if_pos c5] at H
   have c5b0 : (a0_0 == a1_0) = true := beq_iff_eq.mpr c5
   have c5b1 : (a0_0 != a1_0) = false := bne_eq_false_iff_eq.mpr c5
   clear c5
   obtain rfl := Option.some.inj H
   go_enter Try.func102, Try.ntmps102
   go_wp2_with (first | ((with_reducible refine gate_dst (N := 2) rfl ?_); refine box_event ?hg (N := 2) ?hd (cs := #[.int .i64 a0_0, .int .i64 a0_1, .slice A0_2 l0_2.length c0_2]) (t := 129) ?hr ?_; (case hd => rfl); (case hg => rfl); (case hr => first | (go_simp; done) | (go_simp; rfl)); intro gb225 hg w6 hbox hb; have n0_ := Aside0.mk (below_step (by repeat (first | (with_reducible first | exact HB.out | apply below_alloc | apply pw_below_drewN | apply below_drew1) | exact HB.out)) hb); have n1_ := Aside0.mk (hbox); have n2_ := Aside0.mk ((by rw [hg]; exact (below_size (by repeat (first | (with_reducible first | exact HB.out | apply below_alloc | apply pw_below_drewN | apply below_drew1) | exact HB.out))) : w.heap.size ≤ gb225)); have n3_ := Aside0.mk ((by rw [hg]; exact (below_size (by repeat (first | (with_reducible first | exact HB.out | apply below_alloc | apply pw_below_drewN | apply below_drew1) | exact HB.out))) : w.heap.size ≤ gb225)); clear HB; have HB := n0_; have BK225 := n1_; have GW225 := n2_; have GE225 := n3_; clear n0_ n1_ n2_ n3_; clear hb hbox hg) | ((with_reducible refine gate_dst (N := 3) rfl ?_); refine box_event ?hg (N := 3) ?hd (cs := #[.int .i64 a1_0, .int .i64 a1_1, .slice A1_2 l1_2.length c1_2]) (t := 129) ?hr ?_; (case hd => rfl); (case hg => rfl); (case hr => first | (go_simp; done) | (go_simp; rfl)); intro gb226 hg w7 hbox hb; have n0_ := Aside0.mk (blk_below (g := gb225) (o := .cells #[.int .i64 a0_0, .int .i64 a0_1, .slice A0_2 l0_2.length c0_2] 129 (0, 0)) (pB BK225.out) hb); have n1_ := Aside0.mk (below_step (by repeat (first | (with_reducible first | exact HB.out | apply below_alloc | apply pw_below_drewN | apply below_drew1 | refine below_set ?_ GE225.out) | exact HB.out)) hb); have n2_ := Aside0.mk (hbox); have n3_ := Aside0.mk ((by rw [hg]; exact (below_size (by repeat (first | (with_reducible first | exact HB.out | apply below_alloc | apply pw_below_drewN | apply below_drew1 | refine below_set ?_ GE225.out) | exact HB.out))) : w.heap.size ≤ gb226)); have n4_ := Aside0.mk ((by rw [hg]; exact (below_size (by repeat (first | (with_reducible first | exact HB.out | apply below_alloc | apply pw_below_drewN | apply below_drew1 | refine below_set ?_ GE225.out) | exact HB.out))) : w.heap.size ≤ gb226)); have n5_ := Aside0.mk ((by rw [hg]; exact Nat.ne_of_lt (blk_lt (g := gb225) (o := .cells #[.int .i64 a0_0, .int .i64 a0_1, .slice A0_2 l0_2.length c0_2] 129 (0, 0)) (pB BK225.out)) : gb225 ≠ gb226)); have n6_ := Aside0.mk ((by rw [hg]; exact Nat.ne_of_gt (blk_lt (g := gb225) (o := .cells #[.int .i64 a0_0, .int .i64 a0_1, .slice A0_2 l0_2.length c0_2] 129 (0, 0)) (pB BK225.out)) : gb226 ≠ gb225)); clear BK225; clear HB; have BK225 := n0_; have HB := n1_; have BK226 := n2_; have GW226 := n3_; have GE226 := n4_; have NB225_226 := n5_; have NB226_225 := n6_; clear n0_ n1_ n2_ n3_ n4_ n5_ n6_; clear hb hbox hg; have hnb8 := NB225_226.out; have hnc8 := NB226_225.out; have hcz9_0 : w7.cell? ⟨gb225, 0, none⟩ = some (.int .i64 a0_0) := (blk_cell BK225.out 0).trans rfl; have hcz9_1 : w7.cell? ⟨gb225, 1, none⟩ = some (.int .i64 a0_1) := (blk_cell BK225.out 1).trans rfl; have hcz9_2 : w7.cell? ⟨gb225, 2, none⟩ = some (.slice A0_2 l0_2.length c0_2) := (blk_cell BK225.out 2).trans rfl; have hfz9_0 := blk_frozen BK225.out 0; have hfz9_1 := blk_frozen BK225.out 1; have hfz9_2 := blk_frozen BK225.out 2; have hcz10_0 : w7.cell? ⟨gb226, 0, none⟩ = some (.int .i64 a1_0) := (blk_cell BK226.out 0).trans rfl; have hcz10_1 : w7.cell? ⟨gb226, 1, none⟩ = some (.int .i64 a1_1) := (blk_cell BK226.out 1).trans rfl; have hcz10_2 : w7.cell? ⟨gb226, 2, none⟩ = some (.slice A1_2 l1_2.length c1_2) := (blk_cell BK226.out 2).trans rfl; have hfz10_0 := blk_frozen BK226.out 0; have hfz10_1 := blk_frozen BK226.out 1; have hfz10_2 := blk_frozen BK226.out 2) | ((with_reducible refine gate_callee (f := 29) rfl ?_); refine goesL_ (some 10) rfl rfl Try.func29 (by kernel_rfl) rfl #[.slice A0_2 l0_2.length c0_2, .slice A1_2 l1_2.length c1_2] rfl (by (try simp only [List.map_toArray, List.map_cons, List.map_nil]); first | done | rfl | (simp only [List.length_drop, List.length_take]; rfl)) ?_; (with_reducible refine (selvedgeref01_Same.calls k _ _ l0_2 _ _ l1_2 true _ ?side1 ?side2 ?side3 ?side4 A3.out).mono ?_); (case side1 => repeat (first | exact (Kd.C_below HR0_2.out HB.out) | (with_reducible refine Kd.C_alloc ?_ _) | (with_reducible refine Kd.C_drewN ?_ _) | (with_reducible refine Kd.C_drew ?_))); (case side2 => exact HC0_2.out); (case side3 => repeat (first | exact (Kd.C_below HR1_2.out HB.out) | (with_reducible refine Kd.C_alloc ?_ _) | (with_reducible refine Kd.C_drewN ?_ _) | (with_reducible refine Kd.C_drew ?_))); (case side4 => exact HC1_2.out); rintro e w' ⟨rfl, ⟨nd, rfl⟩⟩; refine ⟨_, rfl, ?_⟩))
   go_ret
   exact ⟨by first | rfl | (simp [errW_none, errW_some] <;> rfl) | (simp [*, errW_none, errW_some] <;> rfl), by repeat (first | (with_reducible first | exact HB.out | apply below_alloc | apply pw_below_drewN | apply below_drew1 | refine below_set ?_ GE225.out | refine below_set ?_ GE226.out) | exact HB.out)⟩
  ·
   rw [if_neg c5] at H
   have c5b0 : (a0_0 == a1_0) = false := beq_eq_false_iff_ne.mpr c5
   have c5b1 : (a0_0 != a1_0) = true := bne_iff_ne.mpr c5
   obtain rfl := Option.some.inj H
   go_enter Try.func102, Try.ntmps102
   go_wp2_with (first | ((with_reducible refine gate_dst (N := 2) rfl ?_); refine box_event ?hg (N := 2) ?hd (cs := #[.int .i64 a0_0, .int .i64 a0_1, .slice A0_2 l0_2.length c0_2]) (t := 129) ?hr ?_; (case hd => rfl); (case hg => rfl); (case hr => first | (go_simp; done) | (go_simp; rfl)); intro gb225 hg w11 hbox hb; have n0_ := Aside0.mk (below_step (by repeat (first | (with_reducible first | exact HB.out | apply below_alloc | apply pw_below_drewN | apply below_drew1) | exact HB.out)) hb); have n1_ := Aside0.mk (hbox); have n2_ := Aside0.mk ((by rw [hg]; exact (below_size (by repeat (first | (with_reducible first | exact HB.out | apply below_alloc | apply pw_below_drewN | apply below_drew1) | exact HB.out))) : w.heap.size ≤ gb225)); have n3_ := Aside0.mk ((by rw [hg]; exact (below_size (by repeat (first | (with_reducible first | exact HB.out | apply below_alloc | apply pw_below_drewN | apply below_drew1) | exact HB.out))) : w.heap.size ≤ gb225)); clear HB; have HB := n0_; have BK225 := n1_; have GW225 := n2_; have GE225 := n3_; clear n0_ n1_ n2_ n3_; clear hb hbox hg) | ((with_reducible refine gate_dst (N := 3) rfl ?_); refine box_event ?hg (N := 3) ?hd (cs := #[.int .i64 a1_0, .int .i64 a1_1, .slice A1_2 l1_2.length c1_2]) (t := 129) ?hr ?_; (case hd => rfl); (case hg => rfl); (case hr => first | (go_simp; done) | (go_simp; rfl)); intro gb226 hg w12 hbox hb; have n0_ := Aside0.mk (blk_below (g := gb225) (o := .cells #[.int .i64 a0_0, .int .i64 a0_1, .slice A0_2 l0_2.length c0_2] 129 (0, 0)) (pB BK225.out) hb); have n1_ := Aside0.mk (below_step (by repeat (first | (with_reducible first | exact HB.out | apply below_alloc | apply pw_below_drewN | apply below_drew1 | refine below_set ?_ GE225.out) | exact HB.out)) hb); have n2_ := Aside0.mk (hbox); have n3_ := Aside0.mk ((by rw [hg]; exact (below_size (by repeat (first | (with_reducible first | exact HB.out | apply below_alloc | apply pw_below_drewN | apply below_drew1 | refine below_set ?_ GE225.out) | exact HB.out))) : w.heap.size ≤ gb226)); have n4_ := Aside0.mk ((by rw [hg]; exact (below_size (by repeat (first | (with_reducible first | exact HB.out | apply below_alloc | apply pw_below_drewN | apply below_drew1 | refine below_set ?_ GE225.out) | exact HB.out))) : w.heap.size ≤ gb226)); have n5_ := Aside0.mk ((by rw [hg]; exact Nat.ne_of_lt (blk_lt (g := gb225) (o := .cells #[.int .i64 a0_0, .int .i64 a0_1, .slice A0_2 l0_2.length c0_2] 129 (0, 0)) (pB BK225.out)) : gb225 ≠ gb226)); have n6_ := Aside0.mk ((by rw [hg]; exact Nat.ne_of_gt (blk_lt (g := gb225) (o := .cells #[.int .i64 a0_0, .int .i64 a0_1, .slice A0_2 l0_2.length c0_2] 129 (0, 0)) (pB BK225.out)) : gb226 ≠ gb225)); clear BK225; clear HB; have BK225 := n0_; have HB := n1_; have BK226 := n2_; have GW226 := n3_; have GE226 := n4_; have NB225_226 := n5_; have NB226_225 := n6_; clear n0_ n1_ n2_ n3_ n4_ n5_ n6_; clear hb hbox hg; have hnb13 := NB225_226.out; have hnc13 := NB226_225.out; have hcz14_0 : w12.cell? ⟨gb225, 0, none⟩ = some (.int .i64 a0_0) := (blk_cell BK225.out 0).trans rfl; have hcz14_1 : w12.cell? ⟨gb225, 1, none⟩ = some (.int .i64 a0_1) := (blk_cell BK225.out 1).trans rfl; have hcz14_2 : w12.cell? ⟨gb225, 2, none⟩ = some (.slice A0_2 l0_2.length c0_2) := (blk_cell BK225.out 2).trans rfl; have hfz14_0 := blk_frozen BK225.out 0; have hfz14_1 := blk_frozen BK225.out 1; have hfz14_2 := blk_frozen BK225.out 2; have hcz15_0 : w12.cell? ⟨gb226, 0, none⟩ = some (.int .i64 a1_0) := (blk_cell BK226.out 0).trans rfl; have hcz15_1 : w12.cell? ⟨gb226, 1, none⟩ = some (.int .i64 a1_1) := (blk_cell BK226.out 1).trans rfl; have hcz15_2 : w12.cell? ⟨gb226, 2, none⟩ = some (.slice A1_2 l1_2.length c1_2) := (blk_cell BK226.out 2).trans rfl; have hfz15_0 := blk_frozen BK226.out 0; have hfz15_1 := blk_frozen BK226.out 1; have hfz15_2 := blk_frozen BK226.out 2) | ((with_reducible refine gate_callee (f := 29) rfl ?_); refine goesL_ (some 10) rfl rfl Try.func29 (by kernel_rfl) rfl #[.slice A0_2 l0_2.length c0_2, .slice A1_2 l1_2.length c1_2] rfl (by (try simp only [List.map_toArray, List.map_cons, List.map_nil]); first | done | rfl | (simp only [List.length_drop, List.length_take]; rfl)) ?_; (with_reducible refine (selvedgeref01_Same.calls k _ _ l0_2 _ _ l1_2 true _ ?side1 ?side2 ?side3 ?side4 A3.out).mono ?_); (case side1 => repeat (first | exact (Kd.C_below HR0_2.out HB.out) | (with_reducible refine Kd.C_alloc ?_ _) | (with_reducible refine Kd.C_drewN ?_ _) | (with_reducible refine Kd.C_drew ?_))); (case side2 => exact HC0_2.out); (case side3 => repeat (first | exact (Kd.C_below HR1_2.out HB.out) | (with_reducible refine Kd.C_alloc ?_ _) | (with_reducible refine Kd.C_drewN ?_ _) | (with_reducible refine Kd.C_drew ?_))); (case side4 => exact HC1_2.out); rintro e w' ⟨rfl, ⟨nd, rfl⟩⟩; refine ⟨_, rfl, ?_⟩))
   go_ret
   exact ⟨by first | rfl | (simp [errW_none, errW_some] <;> rfl) | (simp [*, errW_none, errW_some] <;> rfl), by repeat (first | (with_reducible first | exact HB.out | apply below_alloc | apply pw_below_drewN | apply below_drew1 | refine below_set ?_ GE225.out | refine below_set ?_ GE226.out) | exact HB.out)⟩
 ·
  replace c4 := Bool.eq_false_iff.mpr c4
  subst c4
  have H1 : (some false) = some r := by rw [if_neg (show ¬ (false = true) by decide)] at H; exact H
  clear H
  have H := H1
  clear H1
  obtain rfl := Option.some.inj H
  go_enter Try.func102, Try.ntmps102
  go_wp2_with (first | ((with_reducible refine gate_dst (N := 2) rfl ?_); refine box_event ?hg (N := 2) ?hd (cs := #[.int .i64 a0_0, .int .i64 a0_1, .slice A0_2 l0_2.length c0_2]) (t := 129) ?hr ?_; (case hd => rfl); (case hg => rfl); (case hr => first | (go_simp; done) | (go_simp; rfl)); intro gb225 hg w16 hbox hb; have n0_ := Aside0.mk (below_step (by repeat (first | (with_reducible first | exact HB.out | apply below_alloc | apply pw_below_drewN | apply below_drew1) | exact HB.out)) hb); have n1_ := Aside0.mk (hbox); have n2_ := Aside0.mk ((by rw [hg]; exact (below_size (by repeat (first | (with_reducible first | exact HB.out | apply below_alloc | apply pw_below_drewN | apply below_drew1) | exact HB.out))) : w.heap.size ≤ gb225)); have n3_ := Aside0.mk ((by rw [hg]; exact (below_size (by repeat (first | (with_reducible first | exact HB.out | apply below_alloc | apply pw_below_drewN | apply below_drew1) | exact HB.out))) : w.heap.size ≤ gb225)); clear HB; have HB := n0_; have BK225 := n1_; have GW225 := n2_; have GE225 := n3_; clear n0_ n1_ n2_ n3_; clear hb hbox hg) | ((with_reducible refine gate_dst (N := 3) rfl ?_); refine box_event ?hg (N := 3) ?hd (cs := #[.int .i64 a1_0, .int .i64 a1_1, .slice A1_2 l1_2.length c1_2]) (t := 129) ?hr ?_; (case hd => rfl); (case hg => rfl); (case hr => first | (go_simp; done) | (go_simp; rfl)); intro gb226 hg w17 hbox hb; have n0_ := Aside0.mk (blk_below (g := gb225) (o := .cells #[.int .i64 a0_0, .int .i64 a0_1, .slice A0_2 l0_2.length c0_2] 129 (0, 0)) (pB BK225.out) hb); have n1_ := Aside0.mk (below_step (by repeat (first | (with_reducible first | exact HB.out | apply below_alloc | apply pw_below_drewN | apply below_drew1 | refine below_set ?_ GE225.out) | exact HB.out)) hb); have n2_ := Aside0.mk (hbox); have n3_ := Aside0.mk ((by rw [hg]; exact (below_size (by repeat (first | (with_reducible first | exact HB.out | apply below_alloc | apply pw_below_drewN | apply below_drew1 | refine below_set ?_ GE225.out) | exact HB.out))) : w.heap.size ≤ gb226)); have n4_ := Aside0.mk ((by rw [hg]; exact (below_size (by repeat (first | (with_reducible first | exact HB.out | apply below_alloc | apply pw_below_drewN | apply below_drew1 | refine below_set ?_ GE225.out) | exact HB.out))) : w.heap.size ≤ gb226)); have n5_ := Aside0.mk ((by rw [hg]; exact Nat.ne_of_lt (blk_lt (g := gb225) (o := .cells #[.int .i64 a0_0, .int .i64 a0_1, .slice A0_2 l0_2.length c0_2] 129 (0, 0)) (pB BK225.out)) : gb225 ≠ gb226)); have n6_ := Aside0.mk ((by rw [hg]; exact Nat.ne_of_gt (blk_lt (g := gb225) (o := .cells #[.int .i64 a0_0, .int .i64 a0_1, .slice A0_2 l0_2.length c0_2] 129 (0, 0)) (pB BK225.out)) : gb226 ≠ gb225)); clear BK225; clear HB; have BK225 := n0_; have HB := n1_; have BK226 := n2_; have GW226 := n3_; have GE226 := n4_; have NB225_226 := n5_; have NB226_225 := n6_; clear n0_ n1_ n2_ n3_ n4_ n5_ n6_; clear hb hbox hg; have hnb18 := NB225_226.out; have hnc18 := NB226_225.out; have hcz19_0 : w17.cell? ⟨gb225, 0, none⟩ = some (.int .i64 a0_0) := (blk_cell BK225.out 0).trans rfl; have hcz19_1 : w17.cell? ⟨gb225, 1, none⟩ = some (.int .i64 a0_1) := (blk_cell BK225.out 1).trans rfl; have hcz19_2 : w17.cell? ⟨gb225, 2, none⟩ = some (.slice A0_2 l0_2.length c0_2) := (blk_cell BK225.out 2).trans rfl; have hfz19_0 := blk_frozen BK225.out 0; have hfz19_1 := blk_frozen BK225.out 1; have hfz19_2 := blk_frozen BK225.out 2; have hcz20_0 : w17.cell? ⟨gb226, 0, none⟩ = some (.int .i64 a1_0) := (blk_cell BK226.out 0).trans rfl; have hcz20_1 : w17.cell? ⟨gb226, 1, none⟩ = some (.int .i64 a1_1) := (blk_cell BK226.out 1).trans rfl; have hcz20_2 : w17.cell? ⟨gb226, 2, none⟩ = some (.slice A1_2 l1_2.length c1_2) := (blk_cell BK226.out 2).trans rfl; have hfz20_0 := blk_frozen BK226.out 0; have hfz20_1 := blk_frozen BK226.out 1; have hfz20_2 := blk_frozen BK226.out 2) | ((with_reducible refine gate_callee (f := 29) rfl ?_); refine goesL_ (some 10) rfl rfl Try.func29 (by kernel_rfl) rfl #[.slice A0_2 l0_2.length c0_2, .slice A1_2 l1_2.length c1_2] rfl (by (try simp only [List.map_toArray, List.map_cons, List.map_nil]); first | done | rfl | (simp only [List.length_drop, List.length_take]; rfl)) ?_; (with_reducible refine (selvedgeref01_Same.calls k _ _ l0_2 _ _ l1_2 false _ ?side1 ?side2 ?side3 ?side4 A3.out).mono ?_); (case side1 => repeat (first | exact (Kd.C_below HR0_2.out HB.out) | (with_reducible refine Kd.C_alloc ?_ _) | (with_reducible refine Kd.C_drewN ?_ _) | (with_reducible refine Kd.C_drew ?_))); (case side2 => exact HC0_2.out); (case side3 => repeat (first | exact (Kd.C_below HR1_2.out HB.out) | (with_reducible refine Kd.C_alloc ?_ _) | (with_reducible refine Kd.C_drewN ?_ _) | (with_reducible refine Kd.C_drew ?_))); (case side4 => exact HC1_2.out); rintro e w' ⟨rfl, ⟨nd, rfl⟩⟩; refine ⟨_, rfl, ?_⟩))
  go_ret
  exact ⟨by first | rfl | (simp [errW_none, errW_some] <;> rfl) | (simp [*, errW_none, errW_some] <;> rfl), by repeat (first | (with_reducible first | exact HB.out | apply below_alloc | apply pw_below_drewN | apply below_drew1 | refine below_set ?_ GE225.out | refine below_set ?_ GE226.out) | exact HB.out)⟩

end Go.Proofs.Ytcbfnmabckjijaa.POrderBehind
