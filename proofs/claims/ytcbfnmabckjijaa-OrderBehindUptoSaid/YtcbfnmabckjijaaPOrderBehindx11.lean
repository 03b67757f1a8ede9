-- written by a program of this session (pp.py), out of the kit's print and this session's contracts
import Derived.Test.YtcbfnmabckjijaaPOrderBehindx0
import Derived.Test.YtcbfnmabckjijaaPOrderBehindx4
import Derived.Test.YtcbfnmabckjijaaPOrderBehindx5
import Derived.Test.YtcbfnmabckjijaaPOrderBehindx8
import Derived.Test.YtcbfnmabckjijaaPOrderBehindx10
import Derived.Test.YtcbfnmabckjijaaVOrderBehindPe
namespace Go.Proofs.Ytcbfnmabckjijaa.POrderBehind
open Go.RowKit Go.Proofs.YtcbfnmabckjijaaW.PrintWords Go.Proofs.YtcbfnmabckjijaaW.PrintLast Go.Proofs.YtcbfnmabckjijaaW.PrintMore
set_option linter.unusedVariables false
set_option linter.unusedSimpArgs false

def selvedgelaw14_OrderBehind.j0 : Nat → List ByteArray → Bool → Bool → Int → Int → List (S37) → ByteArray → Int → Int → List (S129) → List ByteArray → Int → Int → Option (Bool)
 | 0, _, _, _, _, _, _, _, _, _, _, _, _, _ => none
 | k + 1, x2, x7, x34, x241000, x241001, x241002, x242000, x242001, x242002, x242003, x242004, x242005, x242006 => if x34 = true then (some x7) else ((order_Behind.f k x241000 x241001 x241002 x242000 x242001 x242002 x242003 x242004 x242005 x242006 x2).bind fun bt244 => ((selvedgeref14_Behind.f k x241000 x241001 x241002 x242000 x242001 x242002 x242003 x242004 x242005 x242006 x2).bind fun bt250 => ((selvedgeref11_Entries.f k bt244.1 bt250.1).bind fun t256 => (if t256 = true then ((selvedgeref01_Same.f k bt244.2 bt250.2).bind fun t257 => (some t257)) else (some false)))))
def selvedgelaw14_OrderBehind.f (k : Nat) (a0_0 : Int) (a0_1 : Int) (l0_2 : List (S37)) (a1_0 : ByteArray) (a1_1 : Int) (a1_2 : Int) (l1_3 : List (S129)) (l1_4 : List ByteArray) (a1_5 : Int) (a1_6 : Int) (l2 : List ByteArray) : Option (Bool) := (selvedgelaw14_shown.f k).bind fun t242 => ((selvedgelaw14_small.f k a0_0 a0_1 l0_2).bind fun t243 => (if t242 = true then (if t243 = true then (if a1_2 < 0 then (selvedgelaw14_OrderBehind.j0 k l2 t242 true a0_0 a0_1 l0_2 a1_0 a1_1 a1_2 l1_3 l1_4 a1_5 a1_6) else (selvedgelaw14_OrderBehind.j0 k l2 t242 (decide (a1_2 > 1000000)) a0_0 a0_1 l0_2 a1_0 a1_1 a1_2 l1_3 l1_4 a1_5 a1_6)) else (selvedgelaw14_OrderBehind.j0 k l2 t242 true a0_0 a0_1 l0_2 a1_0 a1_1 a1_2 l1_3 l1_4 a1_5 a1_6)) else (selvedgelaw14_OrderBehind.j0 k l2 t242 true a0_0 a0_1 l0_2 a1_0 a1_1 a1_2 l1_3 l1_4 a1_5 a1_6)))
set_option maxHeartbeats 8000000 in
set_option maxRecDepth 100000 in
theorem selvedgelaw14_OrderBehind.calls (k : Nat) (a0_0 : Int) (a0_1 : Int) (A0_2 : Option Addr) (c0_2 : Nat) (l0_2 : List (S37)) (a1_0 : ByteArray) (a1_1 : Int) (a1_2 : Int) (A1_3 : Option Addr) (c1_3 : Nat) (l1_3 : List (S129)) (A1_4 : Option Addr) (c1_4 : Nat) (l1_4 : List ByteArray) (a1_5 : Int) (a1_6 : Int) (A2 : Option Addr) (c2 : Nat) (l2 : List ByteArray) (r : Bool) (hr_ : r = true) (w : World) (hr0_2 : Kd.C k37 w A0_2 l0_2.length l0_2) (hc0_2 : l0_2.length ≤ c0_2) (hr1_3 : Kd.C k129 w A1_3 l1_3.length l1_3) (hc1_3 : l1_3.length ≤ c1_3) (hr1_4 : Kd.C Kd.string w A1_4 l1_4.length l1_4) (hc1_4 : l1_4.length ≤ c1_4) (hr2 : Kd.C Kd.string w A2 l2.length l2) (hc2 : l2.length ≤ c2) (h : selvedgelaw14_OrderBehind.f k a0_0 a0_1 l0_2 a1_0 a1_1 a1_2 l1_3 l1_4 a1_5 a1_6 l2 = some r) :
  Calls Try.prog 7 #[.agg #[.int .i64 a0_0, .int .i64 a0_1, .slice A0_2 l0_2.length c0_2], .agg #[.string a1_0, .int .i64 a1_1, .int .i64 a1_2, .slice A1_3 l1_3.length c1_3, .slice A1_4 l1_4.length c1_4, .int .i64 a1_5, .int .i64 a1_6], .slice A2 l2.length c2] w fun e w' => e = .returned (.bool r) ∧ Below w.heap.size w w' := by
 have HRT_ := Aside0.mk hr_
 clear hr_
 have hu24 := Try.underlying24
 have hu37 := Try.underlying37
 have HR0_2 := Aside0.mk hr0_2
 have HC0_2 := Aside0.mk hc0_2
 clear hr0_2 hc0_2
 have HR1_3 := Aside0.mk hr1_3
 have HC1_3 := Aside0.mk hc1_3
 clear hr1_3 hc1_3
 have HR1_4 := Aside0.mk hr1_4
 have HC1_4 := Aside0.mk hc1_4
 clear hr1_4 hc1_4
 have HR2 := Aside0.mk hr2
 have HC2 := Aside0.mk hc2
 clear hr2 hc2
 have HB := Aside0.mk (Below.refl w.heap.size w)
 have H : ((selvedgelaw14_shown.f k).bind fun t242 => ((selvedgelaw14_small.f k a0_0 a0_1 l0_2).bind fun t243 => (if t242 = true then (if t243 = true then (if a1_2 < 0 then (selvedgelaw14_OrderBehind.j0 k l2 t242 true a0_0 a0_1 l0_2 a1_0 a1_1 a1_2 l1_3 l1_4 a1_5 a1_6) else (selvedgelaw14_OrderBehind.j0 k l2 t242 (decide (a1_2 > 1000000)) a0_0 a0_1 l0_2 a1_0 a1_1 a1_2 l1_3 l1_4 a1_5 a1_6)) else (selvedgelaw14_OrderBehind.j0 k l2 t242 true a0_0 a0_1 l0_2 a1_0 a1_1 a1_2 l1_3 l1_4 a1_5 a1_6)) else (selvedgelaw14_OrderBehind.j0 k l2 t242 true a0_0 a0_1 l0_2 a1_0 a1_1 a1_2 l1_3 l1_4 a1_5 a1_6)))) = some r := h
 clear h
 replace H := Option.bind_eq_some_iff.mp H
 obtain ⟨t242, A40, H⟩ := H
 replace H : ((selvedgelaw14_small.f k a0_0 a0_1 l0_2).bind fun t243 => (if t242 = true then (if t243 = true then (if a1_2 < 0 then (selvedgelaw14_OrderBehind.j0 k l2 t242 true a0_0 a0_1 l0_2 a1_0 a1_1 a1_2 l1_3 l1_4 a1_5 a1_6) else (selvedgelaw14_OrderBehind.j0 k l2 t242 (decide (a1_2 > 1000000)) a0_0 a0_1 l0_2 a1_0 a1_1 a1_2 l1_3 l1_4 a1_5 a1_6)) else (selvedgelaw14_OrderBehind.j0 k l2 t242 true a0_0 a0_1 l0_2 a1_0 a1_1 a1_2 l1_3 l1_4 a1_5 a1_6)) else (selvedgelaw14_OrderBehind.j0 k l2 t242 true a0_0 a0_1 l0_2 a1_0 a1_1 a1_2 l1_3 l1_4 a1_5 a1_6))) = some r := H
 have A4 := Aside0.mk A40
 clear A40
 replace H := Option.bind_eq_some_iff.mp H
 obtain ⟨t243, A50, H⟩ := H
 replace H : (if t242 = true then (if t243 = true then (if a1_2 < 0 then (selvedgelaw14_OrderBehind.j0 k l2 t242 true a0_0 a0_1 l0_2 a1_0 a1_1 a1_2 l1_3 l1_4 a1_5 a1_6) else (selvedgelaw14_OrderBehind.j0 k l2 t242 (decide (a1_2 > 1000000)) a0_0 a0_1 l0_2 a1_0 a1_1 a1_2 l1_3 l1_4 a1_5 a1_6)) else (selvedgelaw14_OrderBehind.j0 k l2 t242 true a0_0 a0_1 l0_2 a1_0 a1_1 a1_2 l1_3 l1_4 a1_5 a1_6)) else (selvedgelaw14_OrderBehind.j0 k l2 t242 true a0_0 a0_1 l0_2 a1_0 a1_1 a1_2 l1_3 l1_4 a1_5 a1_6)) = some r := H
 have A5 := Aside0.mk A50
 clear A50
 have HC6 := Aside0.mk H
 clear H
 go_enter Try.func7, Try.ntmps7
 go_upto_region 3 with (first | ((with_reducible refine gate_dst (N := 3) rfl ?_); refine box_event ?hg (N := 3) ?hd (cs := #[.int .i64 a0_0, .int .i64 a0_1, .slice A0_2 l0_2.length c0_2]) (t := 24) ?hr ?_; (case hd => rfl); (case hg => rfl); (case hr => first | (go_simp; done) | (go_simp; rfl)); intro gb240 hg w7 hbox hb; have n0_ := Aside0.mk (below_step (by repeat (first | (with_reducible first | exact HB.out | apply below_alloc | apply pw_below_drewN | apply below_drew1) | exact HB.out)) hb); have n1_ := Aside0.mk (hbox); have n2_ := Aside0.mk ((by rw [hg]; exact (below_size (by repeat (first | (with_reducible first | exact HB.out | apply below_alloc | apply pw_below_drewN | apply below_drew1) | exact HB.out))) : w.heap.size ≤ gb240)); have n3_ := Aside0.mk ((by rw [hg]; exact (below_size (by repeat (first | (with_reducible first | exact HB.out | apply below_alloc | apply pw_below_drewN | apply below_drew1) | exact HB.out))) : w.heap.size ≤ gb240)); clear HB; have HB := n0_; have BK240 := n1_; have GW240 := n2_; have GE240 := n3_; clear n0_ n1_ n2_ n3_; clear hb hbox hg) | ((with_reducible refine gate_dst (N := 4) rfl ?_); refine box_event ?hg (N := 4) ?hd (cs := #[.string a1_0, .int .i64 a1_1, .int .i64 a1_2, .slice A1_3 l1_3.length c1_3, .slice A1_4 l1_4.length c1_4, .int .i64 a1_5, .int .i64 a1_6]) (t := 37) ?hr ?_; (case hd => rfl); (case hg => rfl); (case hr => first | (go_simp; done) | (go_simp; rfl)); intro gb241 hg w8 hbox hb; have n0_ := Aside0.mk (blk_below (g := gb240) (o := .cells #[.int .i64 a0_0, .int .i64 a0_1, .slice A0_2 l0_2.length c0_2] 24 (0, 0)) (pB BK240.out) hb); have n1_ := Aside0.mk (below_step (by repeat (first | (with_reducible first | exact HB.out | apply below_alloc | apply pw_below_drewN | apply below_drew1 | refine below_set ?_ GE240.out) | exact HB.out)) hb); have n2_ := Aside0.mk (hbox); have n3_ := Aside0.mk ((by rw [hg]; exact (below_size (by repeat (first | (with_reducible first | exact HB.out | apply below_alloc | apply pw_below_drewN | apply below_drew1 | refine below_set ?_ GE240.out) | exact HB.out))) : w.heap.size ≤ gb241)); have n4_ := Aside0.mk ((by rw [hg]; exact (below_size (by repeat (first | (with_reducible first | exact HB.out | apply below_alloc | apply pw_below_drewN | apply below_drew1 | refine below_set ?_ GE240.out) | exact HB.out))) : w.heap.size ≤ gb241)); have n5_ := Aside0.mk ((by rw [hg]; exact Nat.ne_of_lt (blk_lt (g := gb240) (o := .cells #[.int .i64 a0_0, .int .i64 a0_1, .slice A0_2 l0_2.length c0_2] 24 (0, 0)) (pB BK240.out)) : gb240 ≠ gb241)); have n6_ := Aside0.mk ((by rw [hg]; exact Nat.ne_of_gt (blk_lt (g := gb240) (o := .cells #[.int .i64 a0_0, .int .i64 a0_1, .slice A0_2 l0_2.length c0_2] 24 (0, 0)) (pB BK240.out)) : gb241 ≠ gb240)); clear BK240; clear HB; have BK240 := n0_; have HB := n1_; have BK241 := n2_; have GW241 := n3_; have GE241 := n4_; have NB240_241 := n5_; have NB241_240 := n6_; clear n0_ n1_ n2_ n3_ n4_ n5_ n6_; clear hb hbox hg) | ((with_reducible refine gate_callee (f := 16) rfl ?_); refine goesL_ (some 14) rfl rfl Try.func16 (by kernel_rfl) rfl #[] rfl (by (try simp only [List.map_toArray, List.map_cons, List.map_nil]); first | done | rfl | (simp only [List.length_drop, List.length_take]; rfl)) ?_; (with_reducible refine (selvedgelaw14_shown.calls k  t242 _ A4.out).mono ?_); rintro e w9 ⟨rfl, hb⟩; refine ⟨_, rfl, ?_⟩; have n0_ := Aside0.mk (blk_below (g := gb240) (o := .cells #[.int .i64 a0_0, .int .i64 a0_1, .slice A0_2 l0_2.length c0_2] 24 (0, 0)) (pB BK240.out) hb); have n1_ := Aside0.mk (blk_below (g := gb241) (o := .cells #[.string a1_0, .int .i64 a1_1, .int .i64 a1_2, .slice A1_3 l1_3.length c1_3, .slice A1_4 l1_4.length c1_4, .int .i64 a1_5, .int .i64 a1_6] 37 (0, 0)) (pB BK241.out) hb); have n2_ := Aside0.mk (below_step (by repeat (first | (with_reducible first | exact HB.out | apply below_alloc | apply pw_below_drewN | apply below_drew1 | refine below_set ?_ GE240.out | refine below_set ?_ GE241.out) | exact HB.out)) hb); clear BK240; clear BK241; clear HB; have BK240 := n0_; have BK241 := n1_; have HB := n2_; clear n0_ n1_ n2_; (try clear hb); (try clear hb2); (try clear hk); (try clear hi); have hnb10 := NB240_241.out; have hnc10 := NB241_240.out; have hcz11_0 : w9.cell? ⟨gb240, 0, none⟩ = some (.int .i64 a0_0) := (blk_cell BK240.out 0).trans rfl; have hcz11_1 : w9.cell? ⟨gb240, 1, none⟩ = some (.int .i64 a0_1) := (blk_cell BK240.out 1).trans rfl; have hcz11_2 : w9.cell? ⟨gb240, 2, none⟩ = some (.slice A0_2 l0_2.length c0_2) := (blk_cell BK240.out 2).trans rfl; have hfz11_0 := blk_frozen BK240.out 0; have hfz11_1 := blk_frozen BK240.out 1; have hfz11_2 := blk_frozen BK240.out 2) | ((with_reducible refine gate_callee (f := 25) rfl ?_); refine goesL_ (some 16) rfl rfl Try.func25 (by kernel_rfl) rfl #[.agg #[.int .i64 a0_0, .int .i64 a0_1, .slice A0_2 l0_2.length c0_2]] rfl (by (try simp only [List.map_toArray, List.map_cons, List.map_nil]); first | done | rfl | (simp only [List.length_drop, List.length_take]; rfl)) ?_; (with_reducible refine (selvedgelaw14_small.calls k a0_0 a0_1 _ _ l0_2 t243 _ ?side1 ?side2 A5.out).mono ?_); (case side1 => repeat (first | exact (Kd.C_below HR0_2.out HB.out) | (with_reducible refine Kd.C_alloc ?_ _) | (with_reducible refine Kd.C_drewN ?_ _) | (with_reducible refine Kd.C_drew ?_))); (case side2 => exact HC0_2.out); rintro e w12 ⟨rfl, hb⟩; refine ⟨_, rfl, ?_⟩; have n0_ := Aside0.mk (blk_below (g := gb240) (o := .cells #[.int .i64 a0_0, .int .i64 a0_1, .slice A0_2 l0_2.length c0_2] 24 (0, 0)) (pB BK240.out) hb); have n1_ := Aside0.mk (blk_below (g := gb241) (o := .cells #[.string a1_0, .int .i64 a1_1, .int .i64 a1_2, .slice A1_3 l1_3.length c1_3, .slice A1_4 l1_4.length c1_4, .int .i64 a1_5, .int .i64 a1_6] 37 (0, 0)) (pB BK241.out) hb); have n2_ := Aside0.mk (below_step (by repeat (first | (with_reducible first | exact HB.out | apply below_alloc | apply pw_below_drewN | apply below_drew1 | refine below_set ?_ GE240.out | refine below_set ?_ GE241.out) | exact HB.out)) hb); clear BK240; clear BK241; clear HB; have BK240 := n0_; have BK241 := n1_; have HB := n2_; clear n0_ n1_ n2_; (try clear hb); (try clear hb2); (try clear hk); (try clear hi)))
 (try simp only [Act.put, List.setIfInBounds_toArray, List.set_cons_zero, List.set_cons_succ])
 go_cut [34] (fun v34 wc => ∃ (kq : Nat) (x34_5 : Bool), v34 = .bool x34_5 ∧ Aside0 (selvedgelaw14_OrderBehind.j0 kq l2 t242 x34_5 a0_0 a0_1 l0_2 a1_0 a1_1 a1_2 l1_3 l1_4 a1_5 a1_6 = some r) ∧ Aside0 (kq ≤ k) ∧ Aside0 (wc.heap[gb240]? = some (.cells #[.int .i64 a0_0, .int .i64 a0_1, (.slice A0_2 l0_2.length c0_2)] 24 (0, 0))) ∧ Aside0 (wc.heap[gb241]? = some (.cells #[.string a1_0, .int .i64 a1_1, .int .i64 a1_2, (.slice A1_3 l1_3.length c1_3), (.slice A1_4 l1_4.length c1_4), .int .i64 a1_5, .int .i64 a1_6] 37 (0, 0))) ∧ Aside0 (Below w.heap.size w wc))
 case first =>
  have H := HC6.out
  clear HC6
  by_cases c13 : t242 = true
  ·
   subst c13
   have H1 : (if t243 = true then (if a1_2 < 0 then (selvedgelaw14_OrderBehind.j0 k l2 true true a0_0 a0_1 l0_2 a1_0 a1_1 a1_2 l1_3 l1_4 a1_5 a1_6) else (selvedgelaw14_OrderBehind.j0 k l2 true (decide (a1_2 > 1000000)) a0_0 a0_1 l0_2 a1_0 a1_1 a1_2 l1_3 l1_4 a1_5 a1_6)) else (selvedgelaw14_OrderBehind.j0 k l2 true true a0_0 a0_1 l0_2 a1_0 a1_1 a1_2 l1_3 l1_4 a1_5 a1_6)) = some r := by rw [if_pos rfl] at H; exact H
   clear H
   have H := H1
   clear H1
   by_cases c14 : t243 = true
   ·
    subst c14
    have H1 : (if a1_2 < 0 then (selvedgelaw14_OrderBehind.j0 k l2 true true a0_0 a0_1 l0_2 a1_0 a1_1 a1_2 l1_3 l1_4 a1_5 a1_6) else (selvedgelaw14_OrderBehind.j0 k l2 true (decide (a1_2 > 1000000)) a0_0 a0_1 l0_2 a1_0 a1_1 a1_2 l1_3 l1_4 a1_5 a1_6)) = some r := by rw [if_pos rfl] at H; exact H
    clear H
    have H := H1
    clear H1
    by_cases c15 : a1_2 < 0
    ·
     rw [if_pos c15] at H
     have c15b0 : decide (a1_2 < 0) = true := decide_eq_true c15
     clear c15
     (first | rw [c15b0] | (simp only [i64_w, i32_w]; rw [c15b0]) | skip)
     have H' := Aside0.mk H
     clear H
     have hnb16 := NB241_240.out
     have hnc16 := NB240_241.out
     have hcz17_0 : w12.cell? ⟨gb241, 0, none⟩ = some (.string a1_0) := (blk_cell BK241.out 0).trans rfl
     have hcz17_1 : w12.cell? ⟨gb241, 1, none⟩ = some (.int .i64 a1_1) := (blk_cell BK241.out 1).trans rfl
     have hcz17_2 : w12.cell? ⟨gb241, 2, none⟩ = some (.int .i64 a1_2) := (blk_cell BK241.out 2).trans rfl
     have hcz17_3 : w12.cell? ⟨gb241, 3, none⟩ = some (.slice A1_3 l1_3.length c1_3) := (blk_cell BK241.out 3).trans rfl
     have hcz17_4 : w12.cell? ⟨gb241, 4, none⟩ = some (.slice A1_4 l1_4.length c1_4) := (blk_cell BK241.out 4).trans rfl
     have hcz17_5 : w12.cell? ⟨gb241, 5, none⟩ = some (.int .i64 a1_5) := (blk_cell BK241.out 5).trans rfl
     have hcz17_6 : w12.cell? ⟨gb241, 6, none⟩ = some (.int .i64 a1_6) := (blk_cell BK241.out 6).trans rfl
     have hfz17_0 := blk_frozen BK241.out 0
     have hfz17_1 := blk_frozen BK241.out 1
     have hfz17_2 := blk_frozen BK241.out 2
     have hfz17_3 := blk_frozen BK241.out 3
     have hfz17_4 := blk_frozen BK241.out 4
     have hfz17_5 := blk_frozen BK241.out 5
     have hfz17_6 := blk_frozen BK241.out 6
     go_wp2
     go_meet
     case rel => exact ⟨_, (true), (by first | rfl | (simp; done) | (simp [*]; done)), H', ⟨by first | omega | exact Nat.le_refl _⟩, ⟨by (with_reducible repeat (first | refine blk_drewN ?_ _ | refine blk_drew ?_ | refine blk_alloc ?_ _)); exact BK240.out⟩, ⟨by (with_reducible repeat (first | refine blk_drewN ?_ _ | refine blk_drew ?_ | refine blk_alloc ?_ _)); exact BK241.out⟩, ⟨by repeat (first | (with_reducible first | exact HB.out | apply below_alloc | apply pw_below_drewN | apply below_drew1 | refine below_set ?_ GE240.out | refine below_set ?_ GE241.out) | exact HB.out)⟩⟩
    ·
     rw [if_neg c15] at H
     have c15b0 : decide (a1_2 < 0) = false := decide_eq_false c15
     clear c15
     (first | rw [c15b0] | (simp only [i64_w, i32_w]; rw [c15b0]) | skip)
     have H' := Aside0.mk H
     clear H
     have hnb18 := NB241_240.out
     have hnc18 := NB240_241.out
     have hcz19_0 : w12.cell? ⟨gb241, 0, none⟩ = some (.string a1_0) := (blk_cell BK241.out 0).trans rfl
     have hcz19_1 : w12.cell? ⟨gb241, 1, none⟩ = some (.int .i64 a1_1) := (blk_cell BK241.out 1).trans rfl
     have hcz19_2 : w12.cell? ⟨gb241, 2, none⟩ = some (.int .i64 a1_2) := (blk_cell BK241.out 2).trans rfl
     have hcz19_3 : w12.cell? ⟨gb241, 3, none⟩ = some (.slice A1_3 l1_3.length c1_3) := (blk_cell BK241.out 3).trans rfl
     have hcz19_4 : w12.cell? ⟨gb241, 4, none⟩ = some (.slice A1_4 l1_4.length c1_4) := (blk_cell BK241.out 4).trans rfl
     have hcz19_5 : w12.cell? ⟨gb241, 5, none⟩ = some (.int .i64 a1_5) := (blk_cell BK241.out 5).trans rfl
     have hcz19_6 : w12.cell? ⟨gb241, 6, none⟩ = some (.int .i64 a1_6) := (blk_cell BK241.out 6).trans rfl
     have hfz19_0 := blk_frozen BK241.out 0
     have hfz19_1 := blk_frozen BK241.out 1
     have hfz19_2 := blk_frozen BK241.out 2
     have hfz19_3 := blk_frozen BK241.out 3
     have hfz19_4 := blk_frozen BK241.out 4
     have hfz19_5 := blk_frozen BK241.out 5
     have hfz19_6 := blk_frozen BK241.out 6
     go_wp2
     go_meet
     case rel => exact ⟨_, (decide (a1_2 > 1000000)), (by first | rfl | (simp; done) | (simp [*]; done)), H', ⟨by first | omega | exact Nat.le_refl _⟩, ⟨by (with_reducible repeat (first | refine blk_drewN ?_ _ | refine blk_drew ?_ | refine blk_alloc ?_ _)); exact BK240.out⟩, ⟨by (with_reducible repeat (first | refine blk_drewN ?_ _ | refine blk_drew ?_ | refine blk_alloc ?_ _)); exact BK241.out⟩, ⟨by repeat (first | (with_reducible first | exact HB.out | apply below_alloc | apply pw_below_drewN | apply below_drew1 | refine below_set ?_ GE240.out | refine below_set ?_ GE241.out) | exact HB.out)⟩⟩
   ·
    replace c14 := Bool.eq_false_iff.mpr c14
    subst c14
    have H1 : (selvedgelaw14_OrderBehind.j0 k l2 true true a0_0 a0_1 l0_2 a1_0 a1_1 a1_2 l1_3 l1_4 a1_5 a1_6) = some r := by rw [if_neg (show ¬ (false = true) by decide)] at H; exact H
    clear H
    have H := H1
    clear H1
    have H' := Aside0.mk H
    clear H
    go_wp2
    go_meet
    case rel => exact ⟨_, (true), (by first | rfl | (simp; done) | (simp [*]; done)), H', ⟨by first | omega | exact Nat.le_refl _⟩, ⟨by (with_reducible repeat (first | refine blk_drewN ?_ _ | refine blk_drew ?_ | refine blk_alloc ?_ _)); exact BK240.out⟩, ⟨by (with_reducible repeat (first | refine blk_drewN ?_ _ | refine blk_drew ?_ | refine blk_alloc ?_ _)); exact BK241.out⟩, ⟨by repeat (first | (with_reducible first | exact HB.out | apply below_alloc | apply pw_below_drewN | apply below_drew1 | refine below_set ?_ GE240.out | refine below_set ?_ GE241.out) | exact HB.out)⟩⟩
  ·
   replace c13 := Bool.eq_false_iff.mpr c13
   subst c13
   have H1 : (selvedgelaw14_OrderBehind.j0 k l2 false true a0_0 a0_1 l0_2 a1_0 a1_1 a1_2 l1_3 l1_4 a1_5 a1_6) = some r := by rw [if_neg (show ¬ (false = true) by decide)] at H; exact H
   clear H
   have H := H1
   clear H1
   have H' := Aside0.mk H
   clear H
   go_wp2
   go_meet
   case rel => exact ⟨_, (true), (by first | rfl | (simp; done) | (simp [*]; done)), H', ⟨by first | omega | exact Nat.le_refl _⟩, ⟨by (with_reducible repeat (first | refine blk_drewN ?_ _ | refine blk_drew ?_ | refine blk_alloc ?_ _)); exact BK240.out⟩, ⟨by (with_reducible repeat (first | refine blk_drewN ?_ _ | refine blk_drew ?_ | refine blk_alloc ?_ _)); exact BK241.out⟩, ⟨by repeat (first | (with_reducible first | exact HB.out | apply below_alloc | apply pw_below_drewN | apply below_drew1 | refine below_set ?_ GE240.out | refine below_set ?_ GE241.out) | exact HB.out)⟩⟩
 case rest =>
  clear HC6
  try clear c1
  try clear c2
  try clear p2
  try clear c7
  try clear c10
  try clear c13
  try clear c14
  try clear c15
  try clear c15b0
  try clear c16
  try clear c18
  try clear hcz11_0
  try clear hcz11_1
  try clear hcz11_2
  try clear hcz17_0
  try clear hcz17_1
  try clear hcz17_2
  try clear hcz17_3
  try clear hcz17_4
  try clear hcz17_5
  try clear hcz17_6
  try clear hcz19_0
  try clear hcz19_1
  try clear hcz19_2
  try clear hcz19_3
  try clear hcz19_4
  try clear hcz19_5
  try clear hcz19_6
  try clear hfz11_0
  try clear hfz11_1
  try clear hfz11_2
  try clear hfz17_0
  try clear hfz17_1
  try clear hfz17_2
  try clear hfz17_3
  try clear hfz17_4
  try clear hfz17_5
  try clear hfz17_6
  try clear hfz19_0
  try clear hfz19_1
  try clear hfz19_2
  try clear hfz19_3
  try clear hfz19_4
  try clear hfz19_5
  try clear hfz19_6
  obtain ⟨kq, x34_5, rfl, HA, HJ5, BK240, BK241, HB⟩ := hcut
  cases kq with
  | zero => exact absurd HA.out (by simp [selvedgelaw14_OrderBehind.j0])
  | succ kj5 =>
   have H := HA.out
   clear HA
   simp only [selvedgelaw14_OrderBehind.j0] at H
   by_cases c20 : x34_5 = true
   ·
    subst c20
    have H1 : (some t242) = some r := by rw [if_pos rfl] at H; exact H
    clear H
    have H := H1
    clear H1
    obtain rfl := Option.some.inj H
    go_wp2
    go_ret
    exact ⟨by first | rfl | (simp [errW_none, errW_some] <;> rfl) | (simp [*, errW_none, errW_some] <;> rfl), by repeat (first | (with_reducible first | exact HB.out | apply below_alloc | apply pw_below_drewN | apply below_drew1 | refine below_set ?_ GE240.out | refine below_set ?_ GE241.out) | exact HB.out)⟩
   ·
    replace c20 := Bool.eq_false_iff.mpr c20
    subst c20
    have H1 : ((order_Behind.f kj5 a0_0 a0_1 l0_2 a1_0 a1_1 a1_2 l1_3 l1_4 a1_5 a1_6 l2).bind fun bt244 => ((selvedgeref14_Behind.f kj5 a0_0 a0_1 l0_2 a1_0 a1_1 a1_2 l1_3 l1_4 a1_5 a1_6 l2).bind fun bt250 => ((selvedgeref11_Entries.f kj5 bt244.1 bt250.1).bind fun t256 => (if t256 = true then ((selvedgeref01_Same.f kj5 bt244.2 bt250.2).bind fun t257 => (some t257)) else (some false))))) = some r := by rw [if_neg (show ¬ (false = true) by decide)] at H; exact H
    clear H
    have H := H1
    clear H1
    replace H := Option.bind_eq_some_iff.mp H
    obtain ⟨⟨t244, t247⟩, A210, H⟩ := H
    replace H : ((selvedgeref14_Behind.f kj5 a0_0 a0_1 l0_2 a1_0 a1_1 a1_2 l1_3 l1_4 a1_5 a1_6 l2).bind fun bt250 => ((selvedgeref11_Entries.f kj5 t244 bt250.1).bind fun t256 => (if t256 = true then ((selvedgeref01_Same.f kj5 t247 bt250.2).bind fun t257 => (some t257)) else (some false)))) = some r := H
    have A21 := Aside0.mk A210
    clear A210
    replace H := Option.bind_eq_some_iff.mp H
    obtain ⟨⟨t250, t253⟩, A220, H⟩ := H
    replace H : ((selvedgeref11_Entries.f kj5 t244 t250).bind fun t256 => (if t256 = true then ((selvedgeref01_Same.f kj5 t247 t253).bind fun t257 => (some t257)) else (some false))) = some r := H
    have A22 := Aside0.mk A220
    clear A220
    replace H := Option.bind_eq_some_iff.mp H
    obtain ⟨t256, A230, H⟩ := H
    replace H : (if t256 = true then ((selvedgeref01_Same.f kj5 t247 t253).bind fun t257 => (some t257)) else (some false)) = some r := H
    have A23 := Aside0.mk A230
    clear A230
    by_cases c24 : t256 = true
    ·
     subst c24
     have H1 : ((selvedgeref01_Same.f kj5 t247 t253).bind fun t257 => (some t257)) = some r := by rw [if_pos rfl] at H; exact H
     clear H
     have H := H1
     clear H1
     replace H := Option.bind_eq_some_iff.mp H
     obtain ⟨t257, A250, H⟩ := H
     replace H : (some t257) = some r := H
     have A25 := Aside0.mk A250
     clear A250
     obtain rfl := Option.some.inj H
     have hnb26 := NB240_241.out
     have hnc26 := NB241_240.out
     have hcz27_0 : wc.cell? ⟨gb240, 0, none⟩ = some (.int .i64 a0_0) := (blk_cell BK240.out 0).trans rfl
     have hcz27_1 : wc.cell? ⟨gb240, 1, none⟩ = some (.int .i64 a0_1) := (blk_cell BK240.out 1).trans rfl
     have hcz27_2 : wc.cell? ⟨gb240, 2, none⟩ = some (.slice A0_2 l0_2.length c0_2) := (blk_cell BK240.out 2).trans rfl
     have hfz27_0 := blk_frozen BK240.out 0
     have hfz27_1 := blk_frozen BK240.out 1
     have hfz27_2 := blk_frozen BK240.out 2
     have hcz28_0 : wc.cell? ⟨gb241, 0, none⟩ = some (.string a1_0) := (blk_cell BK241.out 0).trans rfl
     have hcz28_1 : wc.cell? ⟨gb241, 1, none⟩ = some (.int .i64 a1_1) := (blk_cell BK241.out 1).trans rfl
     have hcz28_2 : wc.cell? ⟨gb241, 2, none⟩ = some (.int .i64 a1_2) := (blk_cell BK241.out 2).trans rfl
     have hcz28_3 : wc.cell? ⟨gb241, 3, none⟩ = some (.slice A1_3 l1_3.length c1_3) := (blk_cell BK241.out 3).trans rfl
     have hcz28_4 : wc.cell? ⟨gb241, 4, none⟩ = some (.slice A1_4 l1_4.length c1_4) := (blk_cell BK241.out 4).trans rfl
     have hcz28_5 : wc.cell? ⟨gb241, 5, none⟩ = some (.int .i64 a1_5) := (blk_cell BK241.out 5).trans rfl
     have hcz28_6 : wc.cell? ⟨gb241, 6, none⟩ = some (.int .i64 a1_6) := (blk_cell BK241.out 6).trans rfl
     have hfz28_0 := blk_frozen BK241.out 0
     have hfz28_1 := blk_frozen BK241.out 1
     have hfz28_2 := blk_frozen BK241.out 2
     have hfz28_3 := blk_frozen BK241.out 3
     have hfz28_4 := blk_frozen BK241.out 4
     have hfz28_5 := blk_frozen BK241.out 5
     have hfz28_6 := blk_frozen BK241.out 6
     go_wp2_with (first | ((with_reducible refine gate_callee (f := 26) rfl ?_); refine goesL_ (some 40) rfl rfl Try.func26 (by kernel_rfl) rfl #[.agg #[.int .i64 a0_0, .int .i64 a0_1, .slice A0_2 l0_2.length c0_2], .agg #[.string a1_0, .int .i64 a1_1, .int .i64 a1_2, .slice A1_3 l1_3.length c1_3, .slice A1_4 l1_4.length c1_4, .int .i64 a1_5, .int .i64 a1_6], .slice A2 l2.length c2] rfl (by (try simp only [List.map_toArray, List.map_cons, List.map_nil]); first | done | rfl | (simp only [List.length_drop, List.length_take]; rfl)) ?_; (with_reducible refine (order_Behind.calls kj5 a0_0 a0_1 (fun k_ => k_ < w.heap.size) _ _ l0_2 a1_0 a1_1 a1_2 _ _ l1_3 _ _ l1_4 a1_5 a1_6 (fun k_ => k_ < w.heap.size) _ _ l2 t244 t247 _ ?side1 ?side2 ?side3 ?side4 ?side5 ?side6 A21.out).mono ?_); (case side1 => exact Kd.V_mk HC0_2.out (Kd.F_below (Kd.C_F k37_heap HR0_2.out) (by repeat (first | (with_reducible first | exact HB.out | apply below_alloc | apply pw_below_drewN | apply below_drew1 | refine below_set ?_ GE240.out | refine below_set ?_ GE241.out) | exact HB.out)))); (case side2 => repeat (first | exact (Kd.C_below HR1_3.out HB.out) | (with_reducible refine Kd.C_alloc ?_ _) | (with_reducible refine Kd.C_drewN ?_ _) | (with_reducible refine Kd.C_drew ?_))); (case side3 => exact HC1_3.out); (case side4 => repeat (first | exact (Kd.C_below HR1_4.out HB.out) | (with_reducible refine Kd.C_alloc ?_ _) | (with_reducible refine Kd.C_drewN ?_ _) | (with_reducible refine Kd.C_drew ?_))); (case side5 => exact HC1_4.out); (case side6 => exact Kd.V_mk HC2.out (Kd.F_below (Kd.C_F Kd.heap_string HR2.out) (by repeat (first | (with_reducible first | exact HB.out | apply below_alloc | apply pw_below_drewN | apply below_drew1 | refine below_set ?_ GE240.out | refine below_set ?_ GE241.out) | exact HB.out)))); rintro e w29 ⟨v245, v248, rfl, ho0, ho1, hb⟩; refine ⟨_, rfl, ?_⟩; have n0_ := Aside0.mk (Kd.N_lower (Kd.N_mono (ok' := fun k_ => k_ ≠ gb240 ∧ k_ ≠ gb241) ho0 (fun k_ hk_ => ⟨Or.elim hk_ (fun hs_ => Or.elim hs_ (fun hs_ => fun e_ => Nat.not_le.2 hs_ (by rw [e_]; exact GW240.out)) (fun hs_ => fun e_ => Nat.not_le.2 hs_ (by rw [e_]; exact GW240.out))) (fun hn_ => (Kd.freshB (g := gb240) (o := .cells #[.int .i64 a0_0, .int .i64 a0_1, .slice A0_2 l0_2.length c0_2] 24 (0, 0)) (pB BK240.out) k_ hn_)), Or.elim hk_ (fun hs_ => Or.elim hs_ (fun hs_ => fun e_ => Nat.not_le.2 hs_ (by rw [e_]; exact GW241.out)) (fun hs_ => fun e_ => Nat.not_le.2 hs_ (by rw [e_]; exact GW241.out))) (fun hn_ => (Kd.freshB (g := gb241) (o := .cells #[.string a1_0, .int .i64 a1_1, .int .i64 a1_2, .slice A1_3 l1_3.length c1_3, .slice A1_4 l1_4.length c1_4, .int .i64 a1_5, .int .i64 a1_6] 37 (0, 0)) (pB BK241.out) k_ hn_))⟩)) (below_size (by repeat (first | (with_reducible first | exact HB.out | apply below_alloc | apply pw_below_drewN | apply below_drew1 | refine below_set ?_ GE240.out | refine below_set ?_ GE241.out) | exact HB.out)))); have n1_ := Aside0.mk (Kd.V_lower (Kd.V_mono (ok' := fun k_ => some k_ ≠ (v245 : Value).ownBlock ∧ k_ ≠ gb240 ∧ k_ ≠ gb241) ho1 (fun k_ hk_ => ⟨hk_.2, Or.elim hk_.1 (fun hs_ => Or.elim hs_ (fun hs_ => fun e_ => Nat.not_le.2 hs_ (by rw [e_]; exact GW240.out)) (fun hs_ => fun e_ => Nat.not_le.2 hs_ (by rw [e_]; exact GW240.out))) (fun hn_ => (Kd.freshB (g := gb240) (o := .cells #[.int .i64 a0_0, .int .i64 a0_1, .slice A0_2 l0_2.length c0_2] 24 (0, 0)) (pB BK240.out) k_ hn_)), Or.elim hk_.1 (fun hs_ => Or.elim hs_ (fun hs_ => fun e_ => Nat.not_le.2 hs_ (by rw [e_]; exact GW241.out)) (fun hs_ => fun e_ => Nat.not_le.2 hs_ (by rw [e_]; exact GW241.out))) (fun hn_ => (Kd.freshB (g := gb241) (o := .cells #[.string a1_0, .int .i64 a1_1, .int .i64 a1_2, .slice A1_3 l1_3.length c1_3, .slice A1_4 l1_4.length c1_4, .int .i64 a1_5, .int .i64 a1_6] 37 (0, 0)) (pB BK241.out) k_ hn_))⟩)) (below_size (by repeat (first | (with_reducible first | exact HB.out | apply below_alloc | apply pw_below_drewN | apply below_drew1 | refine below_set ?_ GE240.out | refine below_set ?_ GE241.out) | exact HB.out)))); have n2_ := Aside0.mk (blk_below (g := gb240) (o := .cells #[.int .i64 a0_0, .int .i64 a0_1, .slice A0_2 l0_2.length c0_2] 24 (0, 0)) (pB BK240.out) hb); have n3_ := Aside0.mk (blk_below (g := gb241) (o := .cells #[.string a1_0, .int .i64 a1_1, .int .i64 a1_2, .slice A1_3 l1_3.length c1_3, .slice A1_4 l1_4.length c1_4, .int .i64 a1_5, .int .i64 a1_6] 37 (0, 0)) (pB BK241.out) hb); have n4_ := Aside0.mk (below_step (by repeat (first | (with_reducible first | exact HB.out | apply below_alloc | apply pw_below_drewN | apply below_drew1 | refine below_set ?_ GE240.out | refine below_set ?_ GE241.out) | exact HB.out)) hb); clear BK240; clear BK241; clear HB; have HO246 := n0_; have HO249 := n1_; have BK240 := n2_; have BK241 := n3_; have HB := n4_; clear n0_ n1_ n2_ n3_ n4_; (try clear hb); (try clear hb2); (try clear hk); (try clear hi); (try clear ho0); (try clear ho1); have hcz30_0 : w29.cell? ⟨gb240, 0, none⟩ = some (.int .i64 a0_0) := (blk_cell BK240.out 0).trans rfl; have hcz30_1 : w29.cell? ⟨gb240, 1, none⟩ = some (.int .i64 a0_1) := (blk_cell BK240.out 1).trans rfl; have hcz30_2 : w29.cell? ⟨gb240, 2, none⟩ = some (.slice A0_2 l0_2.length c0_2) := (blk_cell BK240.out 2).trans rfl; have hfz30_0 := blk_frozen BK240.out 0; have hfz30_1 := blk_frozen BK240.out 1; have hfz30_2 := blk_frozen BK240.out 2; have hcz31_0 : w29.cell? ⟨gb241, 0, none⟩ = some (.string a1_0) := (blk_cell BK241.out 0).trans rfl; have hcz31_1 : w29.cell? ⟨gb241, 1, none⟩ = some (.int .i64 a1_1) := (blk_cell BK241.out 1).trans rfl; have hcz31_2 : w29.cell? ⟨gb241, 2, none⟩ = some (.int .i64 a1_2) := (blk_cell BK241.out 2).trans rfl; have hcz31_3 : w29.cell? ⟨gb241, 3, none⟩ = some (.slice A1_3 l1_3.length c1_3) := (blk_cell BK241.out 3).trans rfl; have hcz31_4 : w29.cell? ⟨gb241, 4, none⟩ = some (.slice A1_4 l1_4.length c1_4) := (blk_cell BK241.out 4).trans rfl; have hcz31_5 : w29.cell? ⟨gb241, 5, none⟩ = some (.int .i64 a1_5) := (blk_cell BK241.out 5).trans rfl; have hcz31_6 : w29.cell? ⟨gb241, 6, none⟩ = some (.int .i64 a1_6) := (blk_cell BK241.out 6).trans rfl; have hfz31_0 := blk_frozen BK241.out 0; have hfz31_1 := blk_frozen BK241.out 1; have hfz31_2 := blk_frozen BK241.out 2; have hfz31_3 := blk_frozen BK241.out 3; have hfz31_4 := blk_frozen BK241.out 4; have hfz31_5 := blk_frozen BK241.out 5; have hfz31_6 := blk_frozen BK241.out 6) | ((with_reducible refine gate_callee (f := 27) rfl ?_); refine goesL_ (some 47) rfl rfl Try.func27 (by kernel_rfl) rfl #[.agg #[.int .i64 a0_0, .int .i64 a0_1, .slice A0_2 l0_2.length c0_2], .agg #[.string a1_0, .int .i64 a1_1, .int .i64 a1_2, .slice A1_3 l1_3.length c1_3, .slice A1_4 l1_4.length c1_4, .int .i64 a1_5, .int .i64 a1_6], .slice A2 l2.length c2] rfl (by (try simp only [List.map_toArray, List.map_cons, List.map_nil]); first | done | rfl | (simp only [List.length_drop, List.length_take]; rfl)) ?_; (with_reducible refine (selvedgeref14_Behind.calls kj5 a0_0 a0_1 (fun k_ => k_ < w.heap.size) _ _ l0_2 a1_0 a1_1 a1_2 _ _ l1_3 _ _ l1_4 a1_5 a1_6 (fun k_ => k_ < w.heap.size) _ _ l2 t250 t253 _ ?side1 ?side2 ?side3 ?side4 ?side5 ?side6 A22.out).mono ?_); (case side1 => exact Kd.V_mk HC0_2.out (Kd.F_below (Kd.C_F k37_heap HR0_2.out) (by repeat (first | (with_reducible first | exact HB.out | apply below_alloc | apply pw_below_drewN | apply below_drew1 | refine below_set ?_ GE240.out | refine below_set ?_ GE241.out) | exact HB.out)))); (case side2 => repeat (first | exact (Kd.C_below HR1_3.out HB.out) | (with_reducible refine Kd.C_alloc ?_ _) | (with_reducible refine Kd.C_drewN ?_ _) | (with_reducible refine Kd.C_drew ?_))); (case side3 => exact HC1_3.out); (case side4 => repeat (first | exact (Kd.C_below HR1_4.out HB.out) | (with_reducible refine Kd.C_alloc ?_ _) | (with_reducible refine Kd.C_drewN ?_ _) | (with_reducible refine Kd.C_drew ?_))); (case side5 => exact HC1_4.out); (case side6 => exact Kd.V_mk HC2.out (Kd.F_below (Kd.C_F Kd.heap_string HR2.out) (by repeat (first | (with_reducible first | exact HB.out | apply below_alloc | apply pw_below_drewN | apply below_drew1 | refine below_set ?_ GE240.out | refine below_set ?_ GE241.out) | exact HB.out)))); rintro e w32 ⟨v251, v254, rfl, ho0, ho1, hb⟩; refine ⟨_, rfl, ?_⟩; have n0_ := Aside0.mk (Kd.N_elder' (Kd.pN HO246.out) (Kd.N_base ho0) hb); have n1_ := Aside0.mk (Kd.V_elder' (Kd.pV HO249.out) (Kd.N_base ho0) hb); have n2_ := Aside0.mk (Kd.N_lower (Kd.N_mono (ok' := fun k_ => some k_ ≠ (v245 : Value).ownBlock ∧ k_ ≠ gb240 ∧ k_ ≠ gb241) ho0 (fun k_ hk_ => ⟨Or.elim hk_ (fun hs_ => Or.elim hs_ (fun hs_ => fun e_ => Nat.not_le.2 hs_ (Kd.N_base HO246.out k_ e_.symm)) (fun hs_ => fun e_ => Nat.not_le.2 hs_ (Kd.N_base HO246.out k_ e_.symm))) (fun hn_ => (Kd.fresh' (Kd.N_lt (Kd.pN HO246.out)) k_ hn_)), Or.elim hk_ (fun hs_ => Or.elim hs_ (fun hs_ => fun e_ => Nat.not_le.2 hs_ (by rw [e_]; exact GW240.out)) (fun hs_ => fun e_ => Nat.not_le.2 hs_ (by rw [e_]; exact GW240.out))) (fun hn_ => (Kd.freshB (g := gb240) (o := .cells #[.int .i64 a0_0, .int .i64 a0_1, .slice A0_2 l0_2.length c0_2] 24 (0, 0)) (pB BK240.out) k_ hn_)), Or.elim hk_ (fun hs_ => Or.elim hs_ (fun hs_ => fun e_ => Nat.not_le.2 hs_ (by rw [e_]; exact GW241.out)) (fun hs_ => fun e_ => Nat.not_le.2 hs_ (by rw [e_]; exact GW241.out))) (fun hn_ => (Kd.freshB (g := gb241) (o := .cells #[.string a1_0, .int .i64 a1_1, .int .i64 a1_2, .slice A1_3 l1_3.length c1_3, .slice A1_4 l1_4.length c1_4, .int .i64 a1_5, .int .i64 a1_6] 37 (0, 0)) (pB BK241.out) k_ hn_))⟩)) (below_size (by repeat (first | (with_reducible first | exact HB.out | apply below_alloc | apply pw_below_drewN | apply below_drew1 | refine below_set ?_ GE240.out | refine below_set ?_ GE241.out) | exact HB.out)))); have n3_ := Aside0.mk (Kd.V_lower (Kd.V_mono (ok' := fun k_ => some k_ ≠ (v251 : Value).ownBlock ∧ some k_ ≠ (v245 : Value).ownBlock ∧ k_ ≠ gb240 ∧ k_ ≠ gb241) ho1 (fun k_ hk_ => ⟨hk_.2, Or.elim hk_.1 (fun hs_ => Or.elim hs_ (fun hs_ => fun e_ => Nat.not_le.2 hs_ (Kd.N_base HO246.out k_ e_.symm)) (fun hs_ => fun e_ => Nat.not_le.2 hs_ (Kd.N_base HO246.out k_ e_.symm))) (fun hn_ => (Kd.fresh' (Kd.N_lt (Kd.pN HO246.out)) k_ hn_)), Or.elim hk_.1 (fun hs_ => Or.elim hs_ (fun hs_ => fun e_ => Nat.not_le.2 hs_ (by rw [e_]; exact GW240.out)) (fun hs_ => fun e_ => Nat.not_le.2 hs_ (by rw [e_]; exact GW240.out))) (fun hn_ => (Kd.freshB (g := gb240) (o := .cells #[.int .i64 a0_0, .int .i64 a0_1, .slice A0_2 l0_2.length c0_2] 24 (0, 0)) (pB BK240.out) k_ hn_)), Or.elim hk_.1 (fun hs_ => Or.elim hs_ (fun hs_ => fun e_ => Nat.not_le.2 hs_ (by rw [e_]; exact GW241.out)) (fun hs_ => fun e_ => Nat.not_le.2 hs_ (by rw [e_]; exact GW241.out))) (fun hn_ => (Kd.freshB (g := gb241) (o := .cells #[.string a1_0, .int .i64 a1_1, .int .i64 a1_2, .slice A1_3 l1_3.length c1_3, .slice A1_4 l1_4.length c1_4, .int .i64 a1_5, .int .i64 a1_6] 37 (0, 0)) (pB BK241.out) k_ hn_))⟩)) (below_size (by repeat (first | (with_reducible first | exact HB.out | apply below_alloc | apply pw_below_drewN | apply below_drew1 | refine below_set ?_ GE240.out | refine below_set ?_ GE241.out) | exact HB.out)))); have n4_ := Aside0.mk (blk_below (g := gb240) (o := .cells #[.int .i64 a0_0, .int .i64 a0_1, .slice A0_2 l0_2.length c0_2] 24 (0, 0)) (pB BK240.out) hb); have n5_ := Aside0.mk (blk_below (g := gb241) (o := .cells #[.string a1_0, .int .i64 a1_1, .int .i64 a1_2, .slice A1_3 l1_3.length c1_3, .slice A1_4 l1_4.length c1_4, .int .i64 a1_5, .int .i64 a1_6] 37 (0, 0)) (pB BK241.out) hb); have n6_ := Aside0.mk (below_step (by repeat (first | (with_reducible first | exact HB.out | apply below_alloc | apply pw_below_drewN | apply below_drew1 | refine below_set ?_ GE240.out | refine below_set ?_ GE241.out) | exact HB.out)) hb); clear HO246; clear HO249; clear BK240; clear BK241; clear HB; have HO246 := n0_; have HO249 := n1_; have HO252 := n2_; have HO255 := n3_; have BK240 := n4_; have BK241 := n5_; have HB := n6_; clear n0_ n1_ n2_ n3_ n4_ n5_ n6_; (try clear hb); (try clear hb2); (try clear hk); (try clear hi); (try clear ho0); (try clear ho1); obtain ⟨Ao33, co33, eo33⟩ := Kd.N_slice HO246.out; subst eo33; obtain ⟨Ao34, co34, eo34⟩ := Kd.N_slice HO252.out; subst eo34) | ((with_reducible refine gate_callee (f := 28) rfl ?_); refine goesL_ (some 52) rfl rfl Try.func28 (by kernel_rfl) rfl #[.slice Ao33 t244.length co33, .slice Ao34 t250.length co34] rfl (by (try simp only [List.map_toArray, List.map_cons, List.map_nil]); first | done | rfl | (simp only [List.length_drop, List.length_take]; rfl)) ?_; (with_reducible refine (selvedgeref11_Entries.calls kj5 _ _ t244 _ _ t250 true _ ?side1 ?side2 ?side3 ?side4 A23.out).mono ?_); (case side1 => repeat (first | exact (Kd.N_reads' HO246.out).2.2 | (with_reducible refine Kd.C_alloc ?_ _) | (with_reducible refine Kd.C_drewN ?_ _) | (with_reducible refine Kd.C_drew ?_))); (case side2 => exact (Kd.N_reads' HO246.out).2.1); (case side3 => repeat (first | exact (Kd.N_reads' HO252.out).2.2 | (with_reducible refine Kd.C_alloc ?_ _) | (with_reducible refine Kd.C_drewN ?_ _) | (with_reducible refine Kd.C_drew ?_))); (case side4 => exact (Kd.N_reads' HO252.out).2.1); rintro e w35 ⟨rfl, hb⟩; refine ⟨_, rfl, ?_⟩; have n0_ := Aside0.mk (Kd.N_below (Kd.pN HO246.out) hb); have n1_ := Aside0.mk (Kd.V_below (Kd.pV HO249.out) hb); have n2_ := Aside0.mk (Kd.N_below (Kd.pN HO252.out) hb); have n3_ := Aside0.mk (Kd.V_below (Kd.pV HO255.out) hb); have n4_ := Aside0.mk (blk_below (g := gb240) (o := .cells #[.int .i64 a0_0, .int .i64 a0_1, .slice A0_2 l0_2.length c0_2] 24 (0, 0)) (pB BK240.out) hb); have n5_ := Aside0.mk (blk_below (g := gb241) (o := .cells #[.string a1_0, .int .i64 a1_1, .int .i64 a1_2, .slice A1_3 l1_3.length c1_3, .slice A1_4 l1_4.length c1_4, .int .i64 a1_5, .int .i64 a1_6] 37 (0, 0)) (pB BK241.out) hb); have n6_ := Aside0.mk (below_step (by repeat (first | (with_reducible first | exact HB.out | apply below_alloc | apply pw_below_drewN | apply below_drew1 | refine below_set ?_ GE240.out | refine below_set ?_ GE241.out) | exact HB.out)) hb); clear HO246; clear HO249; clear HO252; clear HO255; clear BK240; clear BK241; clear HB; have HO246 := n0_; have HO249 := n1_; have HO252 := n2_; have HO255 := n3_; have BK240 := n4_; have BK241 := n5_; have HB := n6_; clear n0_ n1_ n2_ n3_ n4_ n5_ n6_; (try clear hb); (try clear hb2); (try clear hk); (try clear hi); obtain ⟨Ao36, co36, eo36⟩ := Kd.V_slice HO249.out; subst eo36; obtain ⟨Ao37, co37, eo37⟩ := Kd.V_slice HO255.out; subst eo37) | (go_at_call 29; (with_reducible refine (selvedgeref01_Same.calls kj5 _ _ t247 _ _ t253 t257 _ ?side1 ?side2 ?side3 ?side4 A25.out).mono ?_); (case side1 => repeat (first | exact (Kd.V_reads' HO249.out).2.2 | (with_reducible refine Kd.C_alloc ?_ _) | (with_reducible refine Kd.C_drewN ?_ _) | (with_reducible refine Kd.C_drew ?_))); (case side2 => exact (Kd.V_reads' HO249.out).2.1); (case side3 => repeat (first | exact (Kd.V_reads' HO255.out).2.2 | (with_reducible refine Kd.C_alloc ?_ _) | (with_reducible refine Kd.C_drewN ?_ _) | (with_reducible refine Kd.C_drew ?_))); (case side4 => exact (Kd.V_reads' HO255.out).2.1); rintro e w' ⟨rfl, ⟨nd, rfl⟩⟩))
     go_ret
     exact ⟨by first | rfl | (simp [errW_none, errW_some] <;> rfl) | (simp [*, errW_none, errW_some] <;> rfl), by repeat (first | (with_reducible first | exact HB.out | apply below_alloc | apply pw_below_drewN | apply below_drew1 | refine below_set ?_ GE240.out | refine below_set ?_ GE241.out) | exact HB.out)⟩
    ·
     replace c24 := Bool.eq_false_iff.mpr c24
     subst c24
     have H1 : (some false) = some r := by rw [if_neg (show ¬ (false = true) by decide)] at H; exact H
     exact absurd ((Option.some.inj H1).trans HRT_.out) (by decide)

end Go.Proofs.Ytcbfnmabckjijaa.POrderBehind
