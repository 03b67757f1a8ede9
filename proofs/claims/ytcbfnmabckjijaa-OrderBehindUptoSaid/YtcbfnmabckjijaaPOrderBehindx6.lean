-- written by a program of this session (pp.py), out of the kit's print and this session's contracts
import Derived.Test.YtcbfnmabckjijaaPOrderBehindx0
import Derived.Test.YtcbfnmabckjijaaVOrderBehindPe
namespace Go.Proofs.Ytcbfnmabckjijaa.POrderBehind
open Go.RowKit Go.Proofs.YtcbfnmabckjijaaW.PrintWords Go.Proofs.YtcbfnmabckjijaaW.PrintLast Go.Proofs.YtcbfnmabckjijaaW.PrintMore
set_option linter.unusedVariables false
set_option linter.unusedSimpArgs false

mutual
def selvedgeref11_reach.l0 : Nat → ByteArray → List Bool → Int → Int → Int → Int → List (S37) → Option (List Bool)
 | 0, _, _, _, _, _, _, _ => none
 | k + 1, x1, x5, x6, x7, x152000, x152001, x152002 => if x7 ≥ 0 then (if 0 ≤ x7 then (if x7 < (x152002.length : Int) then (if ((rd_T37 x152002 x7).f0).toList = x1.toList then (selvedgeref11_reach.l0 k x1 x5 x7 (wrap64 (x7 - 1)) x152000 x152001 x152002) else (selvedgeref11_reach.l0 k x1 x5 x6 (wrap64 (x7 - 1)) x152000 x152001 x152002)) else (none)) else (none)) else (if x6 < 0 then (some x5) else (if 0 ≤ x6 then (if x6 < (x5.length : Int) then (selvedgeref11_reach.l1 k (x5.set (x6 : Int).toNat true) true x152000 x152001 x152002) else (none)) else (none)))
def selvedgeref11_reach.l1 : Nat → List Bool → Bool → Int → Int → List (S37) → Option (List Bool)
 | 0, _, _, _, _, _ => none
 | k + 1, x5, x8, x152000, x152001, x152002 => if x8 = true then (selvedgeref11_reach.l2 k x5 false 0 x152000 x152001 x152002) else (some x5)
def selvedgeref11_reach.l2 : Nat → List Bool → Bool → Int → Int → Int → List (S37) → Option (List Bool)
 | 0, _, _, _, _, _, _ => none
 | k + 1, x5, x8, x9, x152000, x152001, x152002 => if x9 < (x152002.length : Int) then (selvedgeref11_reach.l3 k x5 x8 x9 0 x152000 x152001 x152002) else (selvedgeref11_reach.l1 k x5 x8 x152000 x152001 x152002)
def selvedgeref11_reach.l3 : Nat → List Bool → Bool → Int → Int → Int → Int → List (S37) → Option (List Bool)
 | 0, _, _, _, _, _, _, _ => none
 | k + 1, x5, x8, x9, x10, x152000, x152001, x152002 => if x10 < (x152002.length : Int) then (if 0 ≤ x9 then (if x9 < (x5.length : Int) then (selvedgeref11_reach.j4 k x5 x8 x9 x10 (rdOf false x5 x9) x152000 x152001 x152002) else (none)) else (none)) else (selvedgeref11_reach.j4 k x5 x8 x9 x10 false x152000 x152001 x152002)
def selvedgeref11_reach.j4 : Nat → List Bool → Bool → Int → Int → Bool → Int → Int → List (S37) → Option (List Bool)
 | 0, _, _, _, _, _, _, _, _ => none
 | k + 1, x5, x8, x9, x10, x57, x152000, x152001, x152002 => if x57 = true then (if 0 ≤ x10 then (if x10 < (x5.length : Int) then (if rdOf false x5 x10 = true then (selvedgeref11_reach.j5 k x5 x8 x9 x10 true x152000 x152001 x152002) else (if x10 < (x152002.length : Int) then (if 0 ≤ x9 then (if x9 < (x152002.length : Int) then (selvedgeref11_reach.j5 k x5 x8 x9 x10 (((rd_T37 x152002 x10).f1.f1) != (wrap64 (((rd_T37 x152002 x9).f1.f1) - 1))) x152000 x152001 x152002) else (none)) else (none)) else (none))) else (none)) else (none)) else (selvedgeref11_reach.l2 k x5 x8 (wrap64 (x9 + 1)) x152000 x152001 x152002)
def selvedgeref11_reach.j5 : Nat → List Bool → Bool → Int → Int → Bool → Int → Int → List (S37) → Option (List Bool)
 | 0, _, _, _, _, _, _, _, _ => none
 | k + 1, x5, x8, x9, x10, x81, x152000, x152001, x152002 => if x81 = true then (selvedgeref11_reach.l3 k x5 x8 x9 (wrap64 (x10 + 1)) x152000 x152001 x152002) else (selvedgeref11_reach.l4 k x5 x8 x9 x10 0 x152000 x152001 x152002)
def selvedgeref11_reach.l4 : Nat → List Bool → Bool → Int → Int → Int → Int → Int → List (S37) → Option (List Bool)
 | 0, _, _, _, _, _, _, _, _ => none
 | k + 1, x5, x8, x9, x10, x11, x152000, x152001, x152002 => if 0 ≤ x9 then (if x9 < (x152002.length : Int) then (if x11 < (((rd_T37 x152002 x9).f1.f3).length : Int) then (if 0 ≤ x11 then (if 0 ≤ x10 then (if x10 < (x152002.length : Int) then (if (rdOf ByteArray.empty ((rd_T37 x152002 x9).f1.f3) x11).toList = ((rd_T37 x152002 x10).f0).toList then (if x10 < (x5.length : Int) then (selvedgeref11_reach.l4 k (x5.set (x10 : Int).toNat true) true x9 x10 (wrap64 (x11 + 1)) x152000 x152001 x152002) else (none)) else (selvedgeref11_reach.l4 k x5 x8 x9 x10 (wrap64 (x11 + 1)) x152000 x152001 x152002)) else (none)) else (none)) else (none)) else (selvedgeref11_reach.l3 k x5 x8 x9 (wrap64 (x10 + 1)) x152000 x152001 x152002)) else (none)) else (none)
end
def selvedgeref11_reach.f (k : Nat) (a0_0 : Int) (a0_1 : Int) (l0_2 : List (S37)) (a1 : ByteArray) : Option (List Bool) := if 0 ≤ (l0_2.length : Int) then (if ((l0_2.length : Int) : Int).toNat ≤ 281474976710656 then (selvedgeref11_reach.l0 k a1 (List.replicate ((l0_2.length : Int) : Int).toNat false) (-1) (wrap64 ((l0_2.length : Int) - 1)) a0_0 a0_1 l0_2) else (none)) else (none)
set_option maxHeartbeats 8000000 in
set_option maxRecDepth 100000 in
theorem selvedgeref11_reach.calls (k : Nat) (a0_0 : Int) (a0_1 : Int) (A0_2 : Option Addr) (c0_2 : Nat) (l0_2 : List (S37)) (a1 : ByteArray) (r : List Bool) (w : World) (hr0_2 : Kd.C k37 w A0_2 l0_2.length l0_2) (hc0_2 : l0_2.length ≤ c0_2) (h : selvedgeref11_reach.f k a0_0 a0_1 l0_2 a1 = some r) :
  Calls Try.prog 84 #[.agg #[.int .i64 a0_0, .int .i64 a0_1, .slice A0_2 l0_2.length c0_2], .string a1] w fun e w' => ∃ v0_ : Value, e = .returned (v0_) ∧ Kd.R Kd.bool 4 w' w.heap.size (fun _ => True) v0_ r ∧ Below w.heap.size w w' := by
 have hu24 := Try.underlying24
 have HR0_2 := Aside0.mk hr0_2
 have HC0_2 := Aside0.mk hc0_2
 clear hr0_2 hc0_2
 have HB := Aside0.mk (Below.refl w.heap.size w)
 have H : (if 0 ≤ (l0_2.length : Int) then (if ((l0_2.length : Int) : Int).toNat ≤ 281474976710656 then (selvedgeref11_reach.l0 k a1 (List.replicate ((l0_2.length : Int) : Int).toNat false) (-1) (wrap64 ((l0_2.length : Int) - 1)) a0_0 a0_1 l0_2) else (none)) else (none)) = some r := h
 clear h
 by_cases c3 : 0 ≤ (l0_2.length : Int)
 ·
  rw [if_pos c3] at H
  have c3b0 := eq_true c3
  have c3b1 : decide (0 ≤ (l0_2.length : Int)) = true := decide_eq_true c3
  clear c3
  by_cases c4 : ((l0_2.length : Int) : Int).toNat ≤ 281474976710656
  ·
   rw [if_pos c4] at H
   have c4b0 := eq_true c4
   have c4b1 : decide (((l0_2.length : Int) : Int).toNat ≤ 281474976710656) = true := decide_eq_true c4
   clear c4
   obtain ⟨y152, hy152⟩ : ∃ y_ : List Bool, y_ = (List.replicate ((l0_2.length : Int) : Int).toNat false) := ⟨_, rfl⟩
   replace H : (selvedgeref11_reach.l0 k a1 y152 (-1) (wrap64 ((l0_2.length : Int) - 1)) a0_0 a0_1 l0_2) = some r := by first | (rw [hy152]; with_reducible exact H) | (have H2_ := (Option.bind_some _ _).symm.trans H; rw [hy152]; with_reducible exact H2_) | (have H2_ := (Option.bind_some _ _).symm.trans H; with_reducible exact H2_) | with_reducible exact H | (rw [hy152]; exact H) | exact H
   have Ny152 := Aside0.mk hy152
   clear hy152
   have H' := Aside0.mk H
   clear H
   go_enter Try.func84, Try.ntmps84
   go_wp2_with (first | ((with_reducible refine gate_dst (N := 2) rfl ?_); refine box_event ?hg (N := 2) ?hd (cs := #[.int .i64 a0_0, .int .i64 a0_1, .slice A0_2 l0_2.length c0_2]) (t := 24) ?hr ?_; (case hd => rfl); (case hg => rfl); (case hr => first | (go_simp; done) | (go_simp; rfl)); intro gb151 hg w5 hbox hb; have n0_ := Aside0.mk (below_step (by repeat (first | (with_reducible first | exact HB.out | apply below_alloc | apply pw_below_drewN | apply below_drew1) | exact HB.out)) hb); have n1_ := Aside0.mk (hbox); have n2_ := Aside0.mk ((by rw [hg]; exact (below_size (by repeat (first | (with_reducible first | exact HB.out | apply below_alloc | apply pw_below_drewN | apply below_drew1) | exact HB.out))) : w.heap.size ≤ gb151)); have n3_ := Aside0.mk ((by rw [hg]; exact (below_size (by repeat (first | (with_reducible first | exact HB.out | apply below_alloc | apply pw_below_drewN | apply below_drew1) | exact HB.out))) : w.heap.size ≤ gb151)); clear HB; have HB := n0_; have BK151 := n1_; have GW151 := n2_; have GE151 := n3_; clear n0_ n1_ n2_ n3_; clear hb hbox hg; have hcz6_0 : w5.cell? ⟨gb151, 0, none⟩ = some (.int .i64 a0_0) := (blk_cell BK151.out 0).trans rfl; have hcz6_1 : w5.cell? ⟨gb151, 1, none⟩ = some (.int .i64 a0_1) := (blk_cell BK151.out 1).trans rfl; have hcz6_2 : w5.cell? ⟨gb151, 2, none⟩ = some (.slice A0_2 l0_2.length c0_2) := (blk_cell BK151.out 2).trans rfl; have hfz6_0 := blk_frozen BK151.out 0; have hfz6_1 := blk_frozen BK151.out 1; have hfz6_2 := blk_frozen BK151.out 2) | ((with_reducible refine gate_dst (N := 15) rfl ?_); refine Kd.R_make Kd.bool _ 4 rfl (N := 15) rfl 105 _ _ rfl (l0_2.length : Int) rfl rfl Try.underlying105 (.bool false) 1 info4 rfl (by decide) (by omega) false (ok := fun _ => True) (okp := fun _ => True) rfl (fun _ hk => hk) trivial (of_decide_eq_true (by first | (with_reducible assumption) | assumption)) (Nat.le_trans (Nat.mul_le_mul_right _ (of_decide_eq_true (by first | (with_reducible assumption) | assumption) : (l0_2.length : Int).toNat ≤ 281474976710656)) (by omega)) (Below.refl _ _) (Nat.le_refl _) ?_; intro v153 w7 ho8 hb hg_ hnew_; clear hg_ hnew_; (first | rw [← Ny152.out] at ho8 | (simp only [Int.reduceToNat] at ho8; rw [← Ny152.out] at ho8)); have n0_ := Aside0.mk (Kd.R_lower ho8 (below_size (by repeat (first | (with_reducible first | exact HB.out | apply below_alloc | apply pw_below_drewN | apply below_drew1 | refine below_set ?_ GE151.out) | exact HB.out)))); have n1_ := Aside0.mk (blk_below (g := gb151) (o := .cells #[.int .i64 a0_0, .int .i64 a0_1, .slice A0_2 l0_2.length c0_2] 24 (0, 0)) (pB BK151.out) hb); have n2_ := Aside0.mk (below_step (by repeat (first | (with_reducible first | exact HB.out | apply below_alloc | apply pw_below_drewN | apply below_drew1 | refine below_set ?_ GE151.out) | exact HB.out)) hb); clear BK151; clear HB; have HO154 := n0_; have BK151 := n1_; have HB := n2_; clear n0_ n1_ n2_; clear hb ho8; have hcz9_0 : w7.cell? ⟨gb151, 0, none⟩ = some (.int .i64 a0_0) := (blk_cell BK151.out 0).trans rfl; have hcz9_1 : w7.cell? ⟨gb151, 1, none⟩ = some (.int .i64 a0_1) := (blk_cell BK151.out 1).trans rfl; have hcz9_2 : w7.cell? ⟨gb151, 2, none⟩ = some (.slice A0_2 l0_2.length c0_2) := (blk_cell BK151.out 2).trans rfl; have hfz9_0 := blk_frozen BK151.out 0; have hfz9_1 := blk_frozen BK151.out 1; have hfz9_2 := blk_frozen BK151.out 2))
   (try simp only [Act.put, List.setIfInBounds_toArray, List.set_cons_zero, List.set_cons_succ])
   repeat (go_quiet (first | ((with_reducible refine gate_dst (N := 2) rfl ?_); refine box_event ?hg (N := 2) ?hd (cs := #[.int .i64 a0_0, .int .i64 a0_1, .slice A0_2 l0_2.length c0_2]) (t := 24) ?hr ?_; (case hd => rfl); (case hg => rfl); (case hr => first | (go_simp; done) | (go_simp; rfl)); intro gb151 hg w5 hbox hb; have n0_ := Aside0.mk (below_step (by repeat (first | (with_reducible first | exact HB.out | apply below_alloc | apply pw_below_drewN | apply below_drew1) | exact HB.out)) hb); have n1_ := Aside0.mk (hbox); have n2_ := Aside0.mk ((by rw [hg]; exact (below_size (by repeat (first | (with_reducible first | exact HB.out | apply below_alloc | apply pw_below_drewN | apply below_drew1) | exact HB.out))) : w.heap.size ≤ gb151)); have n3_ := Aside0.mk ((by rw [hg]; exact (below_size (by repeat (first | (with_reducible first | exact HB.out | apply below_alloc | apply pw_below_drewN | apply below_drew1) | exact HB.out))) : w.heap.size ≤ gb151)); clear HB; have HB := n0_; have BK151 := n1_; have GW151 := n2_; have GE151 := n3_; clear n0_ n1_ n2_ n3_; clear hb hbox hg; have hcz6_0 : w5.cell? ⟨gb151, 0, none⟩ = some (.int .i64 a0_0) := (blk_cell BK151.out 0).trans rfl; have hcz6_1 : w5.cell? ⟨gb151, 1, none⟩ = some (.int .i64 a0_1) := (blk_cell BK151.out 1).trans rfl; have hcz6_2 : w5.cell? ⟨gb151, 2, none⟩ = some (.slice A0_2 l0_2.length c0_2) := (blk_cell BK151.out 2).trans rfl; have hfz6_0 := blk_frozen BK151.out 0; have hfz6_1 := blk_frozen BK151.out 1; have hfz6_2 := blk_frozen BK151.out 2) | ((with_reducible refine gate_dst (N := 15) rfl ?_); refine Kd.R_make Kd.bool _ 4 rfl (N := 15) rfl 105 _ _ rfl (l0_2.length : Int) rfl rfl Try.underlying105 (.bool false) 1 info4 rfl (by decide) (by omega) false (ok := fun _ => True) (okp := fun _ => True) rfl (fun _ hk => hk) trivial (of_decide_eq_true (by first | (with_reducible assumption) | assumption)) (Nat.le_trans (Nat.mul_le_mul_right _ (of_decide_eq_true (by first | (with_reducible assumption) | assumption) : (l0_2.length : Int).toNat ≤ 281474976710656)) (by omega)) (Below.refl _ _) (Nat.le_refl _) ?_; intro v153 w7 ho8 hb hg_ hnew_; clear hg_ hnew_; (first | rw [← Ny152.out] at ho8 | (simp only [Int.reduceToNat] at ho8; rw [← Ny152.out] at ho8)); have n0_ := Aside0.mk (Kd.R_lower ho8 (below_size (by repeat (first | (with_reducible first | exact HB.out | apply below_alloc | apply pw_below_drewN | apply below_drew1 | refine below_set ?_ GE151.out) | exact HB.out)))); have n1_ := Aside0.mk (blk_below (g := gb151) (o := .cells #[.int .i64 a0_0, .int .i64 a0_1, .slice A0_2 l0_2.length c0_2] 24 (0, 0)) (pB BK151.out) hb); have n2_ := Aside0.mk (below_step (by repeat (first | (with_reducible first | exact HB.out | apply below_alloc | apply pw_below_drewN | apply below_drew1 | refine below_set ?_ GE151.out) | exact HB.out)) hb); clear BK151; clear HB; have HO154 := n0_; have BK151 := n1_; have HB := n2_; clear n0_ n1_ n2_; clear hb ho8; have hcz9_0 : w7.cell? ⟨gb151, 0, none⟩ = some (.int .i64 a0_0) := (blk_cell BK151.out 0).trans rfl; have hcz9_1 : w7.cell? ⟨gb151, 1, none⟩ = some (.int .i64 a0_1) := (blk_cell BK151.out 1).trans rfl; have hcz9_2 : w7.cell? ⟨gb151, 2, none⟩ = some (.slice A0_2 l0_2.length c0_2) := (blk_cell BK151.out 2).trans rfl; have hfz9_0 := blk_frozen BK151.out 0; have hfz9_1 := blk_frozen BK151.out 1; have hfz9_2 := blk_frozen BK151.out 2)); try go_wp2_with (first | ((with_reducible refine gate_dst (N := 2) rfl ?_); refine box_event ?hg (N := 2) ?hd (cs := #[.int .i64 a0_0, .int .i64 a0_1, .slice A0_2 l0_2.length c0_2]) (t := 24) ?hr ?_; (case hd => rfl); (case hg => rfl); (case hr => first | (go_simp; done) | (go_simp; rfl)); intro gb151 hg w5 hbox hb; have n0_ := Aside0.mk (below_step (by repeat (first | (with_reducible first | exact HB.out | apply below_alloc | apply pw_below_drewN | apply below_drew1) | exact HB.out)) hb); have n1_ := Aside0.mk (hbox); have n2_ := Aside0.mk ((by rw [hg]; exact (below_size (by repeat (first | (with_reducible first | exact HB.out | apply below_alloc | apply pw_below_drewN | apply below_drew1) | exact HB.out))) : w.heap.size ≤ gb151)); have n3_ := Aside0.mk ((by rw [hg]; exact (below_size (by repeat (first | (with_reducible first | exact HB.out | apply below_alloc | apply pw_below_drewN | apply below_drew1) | exact HB.out))) : w.heap.size ≤ gb151)); clear HB; have HB := n0_; have BK151 := n1_; have GW151 := n2_; have GE151 := n3_; clear n0_ n1_ n2_ n3_; clear hb hbox hg; have hcz6_0 : w5.cell? ⟨gb151, 0, none⟩ = some (.int .i64 a0_0) := (blk_cell BK151.out 0).trans rfl; have hcz6_1 : w5.cell? ⟨gb151, 1, none⟩ = some (.int .i64 a0_1) := (blk_cell BK151.out 1).trans rfl; have hcz6_2 : w5.cell? ⟨gb151, 2, none⟩ = some (.slice A0_2 l0_2.length c0_2) := (blk_cell BK151.out 2).trans rfl; have hfz6_0 := blk_frozen BK151.out 0; have hfz6_1 := blk_frozen BK151.out 1; have hfz6_2 := blk_frozen BK151.out 2) | ((with_reducible refine gate_dst (N := 15) rfl ?_); refine Kd.R_make Kd.bool _ 4 rfl (N := 15) rfl 105 _ _ rfl (l0_2.length : Int) rfl rfl Try.underlying105 (.bool false) 1 info4 rfl (by decide) (by omega) false (ok := fun _ => True) (okp := fun _ => True) rfl (fun _ hk => hk) trivial (of_decide_eq_true (by first | (with_reducible assumption) | assumption)) (Nat.le_trans (Nat.mul_le_mul_right _ (of_decide_eq_true (by first | (with_reducible assumption) | assumption) : (l0_2.length : Int).toNat ≤ 281474976710656)) (by omega)) (Below.refl _ _) (Nat.le_refl _) ?_; intro v153 w7 ho8 hb hg_ hnew_; clear hg_ hnew_; (first | rw [← Ny152.out] at ho8 | (simp only [Int.reduceToNat] at ho8; rw [← Ny152.out] at ho8)); have n0_ := Aside0.mk (Kd.R_lower ho8 (below_size (by repeat (first | (with_reducible first | exact HB.out | apply below_alloc | apply pw_below_drewN | apply below_drew1 | refine below_set ?_ GE151.out) | exact HB.out)))); have n1_ := Aside0.mk (blk_below (g := gb151) (o := .cells #[.int .i64 a0_0, .int .i64 a0_1, .slice A0_2 l0_2.length c0_2] 24 (0, 0)) (pB BK151.out) hb); have n2_ := Aside0.mk (below_step (by repeat (first | (with_reducible first | exact HB.out | apply below_alloc | apply pw_below_drewN | apply below_drew1 | refine below_set ?_ GE151.out) | exact HB.out)) hb); clear BK151; clear HB; have HO154 := n0_; have BK151 := n1_; have HB := n2_; clear n0_ n1_ n2_; clear hb ho8; have hcz9_0 : w7.cell? ⟨gb151, 0, none⟩ = some (.int .i64 a0_0) := (blk_cell BK151.out 0).trans rfl; have hcz9_1 : w7.cell? ⟨gb151, 1, none⟩ = some (.int .i64 a0_1) := (blk_cell BK151.out 1).trans rfl; have hcz9_2 : w7.cell? ⟨gb151, 2, none⟩ = some (.slice A0_2 l0_2.length c0_2) := (blk_cell BK151.out 2).trans rfl; have hfz9_0 := blk_frozen BK151.out 0; have hfz9_1 := blk_frozen BK151.out 1; have hfz9_2 := blk_frozen BK151.out 2)))
   go_loopg [6, 7] k (fun kq v6 v7 w' => ∃ (x6_1 : Int) (x7_1 : Int), v6 = .int .i64 x6_1 ∧ v7 = .int .i64 x7_1 ∧ Aside0 (selvedgeref11_reach.l0 kq a1 y152 x6_1 x7_1 a0_0 a0_1 l0_2 = some r) ∧ Aside0 (kq ≤ k) ∧ Aside0 (Kd.R Kd.bool 4 w' w.heap.size (fun _ => True) v153 y152) ∧ Aside0 (w'.heap[gb151]? = some (.cells #[.int .i64 a0_0, .int .i64 a0_1, (.slice A0_2 l0_2.length c0_2)] 24 (0, 0))) ∧ Aside0 (Below w.heap.size w w'))
   case atStart => exact ⟨((-1)), (wrap64 ((l0_2.length : Int) - 1)), (by first | rfl | (simp; done) | (simp [*]; done)), (by first | rfl | (simp; done) | (simp [*]; done)), H', ⟨Nat.le_refl _⟩, ⟨by (with_reducible repeat (first | apply Kd.R_alloc | apply Kd.R_drewN | apply Kd.R_drew)); exact HO154.out⟩, ⟨by (with_reducible repeat (first | refine blk_drewN ?_ _ | refine blk_drew ?_ | refine blk_alloc ?_ _)); exact BK151.out⟩, ⟨by repeat (first | (with_reducible first | exact HB.out | apply below_alloc | apply pw_below_drewN | apply below_drew1 | refine below_set ?_ GE151.out) | exact HB.out)⟩⟩
   case round =>
    clear H'
    try clear p2
    try clear c3
    try clear c3b0
    try clear c3b1
    try clear c4
    try clear c4b0
    try clear c4b1
    try clear p6
    try clear c8
    try clear hcz6_0
    try clear hcz6_1
    try clear hcz6_2
    try clear hcz9_0
    try clear hcz9_1
    try clear hcz9_2
    try clear hfz6_0
    try clear hfz6_1
    try clear hfz6_2
    try clear hfz9_0
    try clear hfz9_1
    try clear hfz9_2
    obtain ⟨x6_1, x7_1, rfl, rfl, HA, HK1, HO_5, BK151, HB⟩ := hrel
    cases gk with
    | zero => exact absurd HA.out (by simp [selvedgeref11_reach.l0])
    | succ k1 =>
     have H := HA.out
     clear HA
     simp only [selvedgeref11_reach.l0] at H
     by_cases c10 : x7_1 ≥ 0
     ·
      rw [if_pos c10] at H
      have c10b0 : decide (0 ≤ x7_1) = true := decide_eq_true c10
      clear c10
      by_cases c11 : 0 ≤ x7_1
      ·
       rw [if_pos c11] at H
       have c11b0 : decide (0 ≤ x7_1) = true := decide_eq_true c11
       clear c11
       by_cases c12 : x7_1 < (l0_2.length : Int)
       ·
        rw [if_pos c12] at H
        have c12b0 : decide (x7_1 < (l0_2.length : Int)) = true := decide_eq_true c12
        clear c12
        by_cases c13 : ((rd_T37 l0_2 x7_1).f0).toList = a1.toList
        ·
         rw [if_pos c13] at H
         have c13b0 : (((rd_T37 l0_2 x7_1).f0).toList == a1.toList) = true := beq_iff_eq.mpr c13
         have c13b1 : (((rd_T37 l0_2 x7_1).f0).toList != a1.toList) = false := bne_eq_false_iff_eq.mpr c13
         clear c13
         have H' := Aside0.mk H
         clear H
         have hcz14_0 : wr.cell? ⟨gb151, 0, none⟩ = some (.int .i64 a0_0) := (blk_cell BK151.out 0).trans rfl
         have hcz14_1 : wr.cell? ⟨gb151, 1, none⟩ = some (.int .i64 a0_1) := (blk_cell BK151.out 1).trans rfl
         have hcz14_2 : wr.cell? ⟨gb151, 2, none⟩ = some (.slice A0_2 l0_2.length c0_2) := (blk_cell BK151.out 2).trans rfl
         have hfz14_0 := blk_frozen BK151.out 0
         have hfz14_1 := blk_frozen BK151.out 1
         have hfz14_2 := blk_frozen BK151.out 2
         have p155 : 0 ≤ (x7_1 : Int) := of_decide_eq_true (by first | (with_reducible assumption) | assumption)
         have q155 : x7_1 < (l0_2.length : Int) := of_decide_eq_true (by first | (with_reducible assumption) | assumption)
         obtain ⟨ad155, A155_3, c155_3, A155_4, c155_4, e155, hx155_0, hx155_1, hx155_2, hx155_3, hx155_4, hx155_5, hx155_6, hl155_3, hi155_3, hl155_4, hi155_4⟩ := at_T37 HR0_2.out x7_1 p155 q155
         cases e155
         replace hx155_0 := (HB.out.cell (World.block_lt_of_cell? w _ hx155_0)).trans hx155_0
         replace hx155_1 := (HB.out.cell (World.block_lt_of_cell? w _ hx155_1)).trans hx155_1
         replace hx155_2 := (HB.out.cell (World.block_lt_of_cell? w _ hx155_2)).trans hx155_2
         replace hx155_3 := (HB.out.cell (World.block_lt_of_cell? w _ hx155_3)).trans hx155_3
         replace hx155_4 := (HB.out.cell (World.block_lt_of_cell? w _ hx155_4)).trans hx155_4
         replace hx155_5 := (HB.out.cell (World.block_lt_of_cell? w _ hx155_5)).trans hx155_5
         replace hx155_6 := (HB.out.cell (World.block_lt_of_cell? w _ hx155_6)).trans hx155_6
         have HR155_3 := Aside0.mk hi155_3
         have HC155_3 := Aside0.mk hl155_3
         clear hi155_3 hl155_3
         have HR155_4 := Aside0.mk hi155_4
         have HC155_4 := Aside0.mk hl155_4
         clear hi155_4 hl155_4
         replace p155 := eq_true p155
         replace q155 := eq_true q155
         go_wp2
         repeat (go_quiet (fail); try go_wp2)
         go_roundg k1
         case measure => have := HK1.out; omega
         case rel => exact ⟨(x7_1), (wrap64 (x7_1 - 1)), (by first | rfl | (simp; done) | (simp [*]; done)), (by first | rfl | (simp; done) | (simp [*]; done)), H', ⟨by have := HK1.out; omega⟩, ⟨by (with_reducible repeat (first | apply Kd.R_alloc | apply Kd.R_drewN | apply Kd.R_drew)); exact HO_5.out⟩, ⟨by (with_reducible repeat (first | refine blk_drewN ?_ _ | refine blk_drew ?_ | refine blk_alloc ?_ _)); exact BK151.out⟩, ⟨by repeat (first | (with_reducible first | exact HB.out | apply below_alloc | apply pw_below_drewN | apply below_drew1 | refine below_set ?_ GE151.out) | exact HB.out)⟩⟩
        ·
         rw [if_neg c13] at H
         have c13b0 : (((rd_T37 l0_2 x7_1).f0).toList == a1.toList) = false := beq_eq_false_iff_ne.mpr c13
         have c13b1 : (((rd_T37 l0_2 x7_1).f0).toList != a1.toList) = true := bne_iff_ne.mpr c13
         have H' := Aside0.mk H
         clear H
         have hcz15_0 : wr.cell? ⟨gb151, 0, none⟩ = some (.int .i64 a0_0) := (blk_cell BK151.out 0).trans rfl
         have hcz15_1 : wr.cell? ⟨gb151, 1, none⟩ = some (.int .i64 a0_1) := (blk_cell BK151.out 1).trans rfl
         have hcz15_2 : wr.cell? ⟨gb151, 2, none⟩ = some (.slice A0_2 l0_2.length c0_2) := (blk_cell BK151.out 2).trans rfl
         have hfz15_0 := blk_frozen BK151.out 0
         have hfz15_1 := blk_frozen BK151.out 1
         have hfz15_2 := blk_frozen BK151.out 2
         have p155 : 0 ≤ (x7_1 : Int) := of_decide_eq_true (by first | (with_reducible assumption) | assumption)
         have q155 : x7_1 < (l0_2.length : Int) := of_decide_eq_true (by first | (with_reducible assumption) | assumption)
         obtain ⟨ad155, A155_3, c155_3, A155_4, c155_4, e155, hx155_0, hx155_1, hx155_2, hx155_3, hx155_4, hx155_5, hx155_6, hl155_3, hi155_3, hl155_4, hi155_4⟩ := at_T37 HR0_2.out x7_1 p155 q155
         cases e155
         replace hx155_0 := (HB.out.cell (World.block_lt_of_cell? w _ hx155_0)).trans hx155_0
         replace hx155_1 := (HB.out.cell (World.block_lt_of_cell? w _ hx155_1)).trans hx155_1
         replace hx155_2 := (HB.out.cell (World.block_lt_of_cell? w _ hx155_2)).trans hx155_2
         replace hx155_3 := (HB.out.cell (World.block_lt_of_cell? w _ hx155_3)).trans hx155_3
         replace hx155_4 := (HB.out.cell (World.block_lt_of_cell? w _ hx155_4)).trans hx155_4
         replace hx155_5 := (HB.out.cell (World.block_lt_of_cell? w _ hx155_5)).trans hx155_5
         replace hx155_6 := (HB.out.cell (World.block_lt_of_cell? w _ hx155_6)).trans hx155_6
         have HR155_3 := Aside0.mk hi155_3
         have HC155_3 := Aside0.mk hl155_3
         clear hi155_3 hl155_3
         have HR155_4 := Aside0.mk hi155_4
         have HC155_4 := Aside0.mk hl155_4
         clear hi155_4 hl155_4
         replace p155 := eq_true p155
         replace q155 := eq_true q155
         go_wp2
         repeat (go_quiet (fail); try go_wp2)
         go_roundg k1
         case measure => have := HK1.out; omega
         case rel => exact ⟨(x6_1), (wrap64 (x7_1 - 1)), (by first | rfl | (simp; done) | (simp [*]; done)), (by first | rfl | (simp; done) | (simp [*]; done)), H', ⟨by have := HK1.out; omega⟩, ⟨by (with_reducible repeat (first | apply Kd.R_alloc | apply Kd.R_drewN | apply Kd.R_drew)); exact HO_5.out⟩, ⟨by (with_reducible repeat (first | refine blk_drewN ?_ _ | refine blk_drew ?_ | refine blk_alloc ?_ _)); exact BK151.out⟩, ⟨by repeat (first | (with_reducible first | exact HB.out | apply below_alloc | apply pw_below_drewN | apply below_drew1 | refine below_set ?_ GE151.out) | exact HB.out)⟩⟩
       ·
        rw [if_neg c12] at H
        exact absurd H (by simp)
      ·
       rw [if_neg c11] at H
       exact absurd H (by simp)
     ·
      rw [if_neg c10] at H
      have c10b0 : decide (0 ≤ x7_1) = false := decide_eq_false c10
      clear c10
      by_cases c16 : x6_1 < 0
      ·
       rw [if_pos c16] at H
       have c16b0 : decide (x6_1 < 0) = true := decide_eq_true c16
       clear c16
       obtain rfl := Option.some.inj H
       go_wp2
       repeat (go_quiet (fail); try go_wp2)
       go_ret
       exact ⟨_, by first | rfl | (simp [errW_none, errW_some] <;> rfl) | (simp [*, errW_none, errW_some] <;> rfl), by (with_reducible repeat (first | apply Kd.R_alloc | apply Kd.R_drewN | apply Kd.R_drew)); exact HO_5.out, by repeat (first | (with_reducible first | exact HB.out | apply below_alloc | apply pw_below_drewN | apply below_drew1 | refine below_set ?_ GE151.out) | exact HB.out)⟩
      ·
       rw [if_neg c16] at H
       have c16b0 : decide (x6_1 < 0) = false := decide_eq_false c16
       clear c16
       by_cases c17 : 0 ≤ x6_1
       ·
        rw [if_pos c17] at H
        have c17b0 : decide (0 ≤ x6_1) = true := decide_eq_true c17
        clear c17
        by_cases c18 : x6_1 < (y152.length : Int)
        ·
         rw [if_pos c18] at H
         have c18b0 : decide (x6_1 < (y152.length : Int)) = true := decide_eq_true c18
         clear c18
         obtain ⟨y156, hy156⟩ : ∃ y_ : List Bool, y_ = (y152.set (x6_1 : Int).toNat true) := ⟨_, rfl⟩
         replace H : (selvedgeref11_reach.l1 k1 y156 true a0_0 a0_1 l0_2) = some r := by first | (rw [hy156]; with_reducible exact H) | (have H2_ := (Option.bind_some _ _).symm.trans H; rw [hy156]; with_reducible exact H2_) | (have H2_ := (Option.bind_some _ _).symm.trans H; with_reducible exact H2_) | with_reducible exact H | (rw [hy156]; exact H) | exact H
         have Ny156 := Aside0.mk hy156
         clear hy156
         have H' := Aside0.mk H
         clear H
         have p19 : 0 ≤ (x6_1 : Int) := of_decide_eq_true (by first | (with_reducible assumption) | assumption)
         have q19 : (x6_1 : Int) < ((y152.length : Int) : Int) := of_decide_eq_true (by first | (with_reducible assumption) | assumption)
         obtain ⟨go19, co19, eo19, gb19, gl19, cl19, HG19⟩ := Kd.R_form HO_5.out (by omega)
         (first | cases eo19 | (injection eo19 with ea_ en_ ec_; (first | subst ea_ | (injection ea_ with ea_; subst ea_)); subst ec_; clear en_))
         have GB19 := Aside0.mk gb19
         have GG19 := Aside0.mk HG19
         clear gb19 gl19 HG19
         obtain ⟨hx19_0, hf19_0⟩ := Kd.R_celln false HO_5.out (x6_1 : Int) p19 q19
         replace p19 := eq_true p19
         replace q19 := eq_true q19
         have HP20 := Kd.R_putg HO_5.out (x6_1 : Int) true
         go_wp2_with (first | ((with_reducible refine gate_store (t := 4) (p := 38) rfl ?_); (try (rw [drewN_self wr]; generalize hq_ : World.drewN wr _ = wr; have n0_ := Aside0.mk (Kd.R_at hq_ HO_5.out); have n1_ := Aside0.mk (blk_at hq_ BK151.out); have n2_ := Aside0.mk (below_at hq_ HB.out); clear hq_ HO_5 BK151 HB; have HO_5 := n0_; have BK151 := n1_; have HB := n2_; clear n0_ n1_ n2_; (try (have HP20 := Kd.R_putg HO_5.out (x6_1 : Int) true)); (try (obtain ⟨hx19_0, hf19_0⟩ := Kd.R_celln false HO_5.out (x6_1 : Int) (of_eq_true p19) (of_eq_true q19))))); refine store_event (t := 4) (p := 38) (v := ?vo_w21) (w1 := (wr.setCell ⟨go19, (x6_1 : Int).toNat, none⟩ (.bool true))) ?hg ?ho ?hn ?hr ?_; (case ho => rfl); (case hg => rfl); (case hn => rfl); (case hr => first | (go_simp; done) | (go_simp; rfl)); intro w21 hw; have hg : wr.grownBy w21 (some go19) := (by rw [hw]; exact HP20.2); have hp_ : Kd.R Kd.bool 4 w21 w.heap.size (fun _ => True) (.slice (some ⟨go19, 0, none⟩) y152.length co19) y156 := (by rw [hw, Ny156.out]; exact HP20.1); clear HP20; have n0_ := Aside0.mk (hp_); have n1_ := Aside0.mk (blk_grown (g := gb151) (o := .cells #[.int .i64 a0_0, .int .i64 a0_1, .slice A0_2 l0_2.length c0_2] 24 (0, 0)) (pB BK151.out) hg (Kd.R_ne HO_5.out BK151.out (by decide))); have n2_ := Aside0.mk ((by rw [hw]; exact below_set (HB.out) GB19.out : Below w.heap.size w w21)); clear HO_5; clear BK151; clear HB; have HO_5 := n0_; have BK151 := n1_; have HB := n2_; clear n0_ n1_ n2_; clear hg hw hp_))
         (try simp only [Act.put, List.setIfInBounds_toArray, List.set_cons_zero, List.set_cons_succ])
         repeat (go_quiet (first | ((with_reducible refine gate_store (t := 4) (p := 38) rfl ?_); (try (rw [drewN_self wr]; generalize hq_ : World.drewN wr _ = wr; have n0_ := Aside0.mk (Kd.R_at hq_ HO_5.out); have n1_ := Aside0.mk (blk_at hq_ BK151.out); have n2_ := Aside0.mk (below_at hq_ HB.out); clear hq_ HO_5 BK151 HB; have HO_5 := n0_; have BK151 := n1_; have HB := n2_; clear n0_ n1_ n2_; (try (have HP20 := Kd.R_putg HO_5.out (x6_1 : Int) true)); (try (obtain ⟨hx19_0, hf19_0⟩ := Kd.R_celln false HO_5.out (x6_1 : Int) (of_eq_true p19) (of_eq_true q19))))); refine store_event (t := 4) (p := 38) (v := ?vo_w21) (w1 := (wr.setCell ⟨go19, (x6_1 : Int).toNat, none⟩ (.bool true))) ?hg ?ho ?hn ?hr ?_; (case ho => rfl); (case hg => rfl); (case hn => rfl); (case hr => first | (go_simp; done) | (go_simp; rfl)); intro w21 hw; have hg : wr.grownBy w21 (some go19) := (by rw [hw]; exact HP20.2); have hp_ : Kd.R Kd.bool 4 w21 w.heap.size (fun _ => True) (.slice (some ⟨go19, 0, none⟩) y152.length co19) y156 := (by rw [hw, Ny156.out]; exact HP20.1); clear HP20; have n0_ := Aside0.mk (hp_); have n1_ := Aside0.mk (blk_grown (g := gb151) (o := .cells #[.int .i64 a0_0, .int .i64 a0_1, .slice A0_2 l0_2.length c0_2] 24 (0, 0)) (pB BK151.out) hg (Kd.R_ne HO_5.out BK151.out (by decide))); have n2_ := Aside0.mk ((by rw [hw]; exact below_set (HB.out) GB19.out : Below w.heap.size w w21)); clear HO_5; clear BK151; clear HB; have HO_5 := n0_; have BK151 := n1_; have HB := n2_; clear n0_ n1_ n2_; clear hg hw hp_)); try go_wp2_with (first | ((with_reducible refine gate_store (t := 4) (p := 38) rfl ?_); (try (rw [drewN_self wr]; generalize hq_ : World.drewN wr _ = wr; have n0_ := Aside0.mk (Kd.R_at hq_ HO_5.out); have n1_ := Aside0.mk (blk_at hq_ BK151.out); have n2_ := Aside0.mk (below_at hq_ HB.out); clear hq_ HO_5 BK151 HB; have HO_5 := n0_; have BK151 := n1_; have HB := n2_; clear n0_ n1_ n2_; (try (have HP20 := Kd.R_putg HO_5.out (x6_1 : Int) true)); (try (obtain ⟨hx19_0, hf19_0⟩ := Kd.R_celln false HO_5.out (x6_1 : Int) (of_eq_true p19) (of_eq_true q19))))); refine store_event (t := 4) (p := 38) (v := ?vo_w21) (w1 := (wr.setCell ⟨go19, (x6_1 : Int).toNat, none⟩ (.bool true))) ?hg ?ho ?hn ?hr ?_; (case ho => rfl); (case hg => rfl); (case hn => rfl); (case hr => first | (go_simp; done) | (go_simp; rfl)); intro w21 hw; have hg : wr.grownBy w21 (some go19) := (by rw [hw]; exact HP20.2); have hp_ : Kd.R Kd.bool 4 w21 w.heap.size (fun _ => True) (.slice (some ⟨go19, 0, none⟩) y152.length co19) y156 := (by rw [hw, Ny156.out]; exact HP20.1); clear HP20; have n0_ := Aside0.mk (hp_); have n1_ := Aside0.mk (blk_grown (g := gb151) (o := .cells #[.int .i64 a0_0, .int .i64 a0_1, .slice A0_2 l0_2.length c0_2] 24 (0, 0)) (pB BK151.out) hg (Kd.R_ne HO_5.out BK151.out (by decide))); have n2_ := Aside0.mk ((by rw [hw]; exact below_set (HB.out) GB19.out : Below w.heap.size w w21)); clear HO_5; clear BK151; clear HB; have HO_5 := n0_; have BK151 := n1_; have HB := n2_; clear n0_ n1_ n2_; clear hg hw hp_)))
         go_loopg [8] k1 (fun kq v8 w' => ∃ (x5_2 : List Bool) (x8_2 : Bool), v8 = .bool x8_2 ∧ Aside0 (selvedgeref11_reach.l1 kq x5_2 x8_2 a0_0 a0_1 l0_2 = some r) ∧ Aside0 (kq ≤ k1) ∧ Aside0 (Kd.R Kd.bool 4 w' w.heap.size (fun _ => True) (.slice (some ⟨go19, 0, none⟩) y152.length co19) x5_2) ∧ Aside0 (w'.heap[gb151]? = some (.cells #[.int .i64 a0_0, .int .i64 a0_1, (.slice A0_2 l0_2.length c0_2)] 24 (0, 0))) ∧ Aside0 (Below w.heap.size w w'))
         case atStart => exact ⟨(y156), (true), (by first | rfl | (simp; done) | (simp [*]; done)), H', ⟨Nat.le_refl _⟩, ⟨by (with_reducible repeat (first | apply Kd.R_alloc | apply Kd.R_drewN | apply Kd.R_drew)); exact HO_5.out⟩, ⟨by (with_reducible repeat (first | refine blk_drewN ?_ _ | refine blk_drew ?_ | refine blk_alloc ?_ _)); exact BK151.out⟩, ⟨by repeat (first | (with_reducible first | exact HB.out | apply below_alloc | apply pw_below_drewN | apply below_drew1 | refine below_set ?_ GE151.out) | exact HB.out)⟩⟩
         case round =>
          clear H'
          try clear c1
          try clear p1
          try clear q1
          try clear hx1
          try clear p2
          try clear c3
          try clear c3b0
          try clear c3b1
          try clear c4
          try clear c4b0
          try clear c4b1
          try clear p6
          try clear c8
          try clear c10
          try clear c10b0
          try clear c11
          try clear c11b0
          try clear c12
          try clear c12b0
          try clear c13
          try clear c13b0
          try clear c13b1
          try clear c15
          try clear p15
          try clear q15
          try clear hx15
          try clear c16
          try clear c16b0
          try clear c17
          try clear c17b0
          try clear c18
          try clear c18b0
          try clear p19
          try clear q19
          try clear hx19
          try clear hf19
          try clear hcz14_0
          try clear hcz14_1
          try clear hcz14_2
          try clear hcz15_0
          try clear hcz15_1
          try clear hcz15_2
          try clear hcz6_0
          try clear hcz6_1
          try clear hcz6_2
          try clear hcz9_0
          try clear hcz9_1
          try clear hcz9_2
          try clear hfz14_0
          try clear hfz14_1
          try clear hfz14_2
          try clear hfz15_0
          try clear hfz15_1
          try clear hfz15_2
          try clear hfz6_0
          try clear hfz6_1
          try clear hfz6_2
          try clear hfz9_0
          try clear hfz9_1
          try clear hfz9_2
          try clear hx155_0
          try clear hx155_1
          try clear hx155_2
          try clear hx155_3
          try clear hx155_4
          try clear hx155_5
          try clear hx155_6
          try clear hx19_0
          try clear p155
          try clear p19
          try clear p2
          try clear p6
          try clear q155
          try clear q19
          obtain ⟨x5_2, x8_2, rfl, HA, HK2, HO_5, BK151, HB⟩ := hrel
          have hl5_2 := (Kd.R_reads' HO_5.out).1
          rw [hl5_2] at HO_5
          (try simp only [hl5_2])
          (try simp only [hl5_2] at BK151)
          cases gk with
          | zero => exact absurd HA.out (by simp [selvedgeref11_reach.l1])
          | succ k2 =>
           have H := HA.out
           clear HA
           simp only [selvedgeref11_reach.l1] at H
           by_cases c22 : x8_2 = true
           ·
            subst c22
            have H1 : (selvedgeref11_reach.l2 k2 x5_2 false 0 a0_0 a0_1 l0_2) = some r := by rw [if_pos rfl] at H; exact H
            clear H
            have H := H1
            clear H1
            have H' := Aside0.mk H
            clear H
            go_wp2
            repeat (go_quiet (fail); try go_wp2)
            go_loopg [8, 9] k2 (fun kq v8 v9 w' => ∃ (x5_3 : List Bool) (x8_3 : Bool) (x9_3 : Int), v8 = .bool x8_3 ∧ v9 = .int .i64 x9_3 ∧ Aside0 (selvedgeref11_reach.l2 kq x5_3 x8_3 x9_3 a0_0 a0_1 l0_2 = some r) ∧ Aside0 (kq ≤ k2) ∧ Aside0 (Kd.R Kd.bool 4 w' w.heap.size (fun _ => True) (.slice (some ⟨go19, 0, none⟩) x5_2.length co19) x5_3) ∧ Aside0 (w'.heap[gb151]? = some (.cells #[.int .i64 a0_0, .int .i64 a0_1, (.slice A0_2 l0_2.length c0_2)] 24 (0, 0))) ∧ Aside0 (Below w.heap.size w w'))
            case atStart => exact ⟨(x5_2), (false), (0), (by first | rfl | (simp; done) | (simp [*]; done)), (by first | rfl | (simp; done) | (simp [*]; done)), H', ⟨Nat.le_refl _⟩, ⟨by (try simp only [hl5_2]); (with_reducible repeat (first | apply Kd.R_alloc | apply Kd.R_drewN | apply Kd.R_drew)); exact HO_5.out⟩, ⟨by (try simp only [hl5_2]); (with_reducible repeat (first | refine blk_drewN ?_ _ | refine blk_drew ?_ | refine blk_alloc ?_ _)); exact BK151.out⟩, ⟨by repeat (first | (with_reducible first | exact HB.out | apply below_alloc | apply pw_below_drewN | apply below_drew1 | refine below_set ?_ GE151.out) | exact HB.out)⟩⟩
            case round =>
             clear H'
             try clear c1
             try clear p1
             try clear q1
             try clear hx1
             try clear c2
             try clear p2
             try clear c3
             try clear c3b0
             try clear c3b1
             try clear c4
             try clear c4b0
             try clear c4b1
             try clear p6
             try clear c8
             try clear c10
             try clear c10b0
             try clear c11
             try clear c11b0
             try clear c12
             try clear c12b0
             try clear c13
             try clear c13b0
             try clear c13b1
             try clear c15
             try clear p15
             try clear q15
             try clear hx15
             try clear c16
             try clear c16b0
             try clear c17
             try clear c17b0
             try clear c18
             try clear c18b0
             try clear p19
             try clear q19
             try clear hx19
             try clear hf19
             try clear c22
             try clear hcz14_0
             try clear hcz14_1
             try clear hcz14_2
             try clear hcz15_0
             try clear hcz15_1
             try clear hcz15_2
             try clear hcz6_0
             try clear hcz6_1
             try clear hcz6_2
             try clear hcz9_0
             try clear hcz9_1
             try clear hcz9_2
             try clear hfz14_0
             try clear hfz14_1
             try clear hfz14_2
             try clear hfz15_0
             try clear hfz15_1
             try clear hfz15_2
             try clear hfz6_0
             try clear hfz6_1
             try clear hfz6_2
             try clear hfz9_0
             try clear hfz9_1
             try clear hfz9_2
             try clear hx155_0
             try clear hx155_1
             try clear hx155_2
             try clear hx155_3
             try clear hx155_4
             try clear hx155_5
             try clear hx155_6
             try clear hx19_0
             try clear p1
             try clear p15
             try clear p155
             try clear p19
             try clear p2
             try clear p6
             try clear q1
             try clear q15
             try clear q155
             try clear q19
             obtain ⟨x5_3, x8_3, x9_3, rfl, rfl, HA, HK3, HO_5, BK151, HB⟩ := hrel
             have hl5_3 := (Kd.R_reads' HO_5.out).1
             rw [hl5_3] at HO_5
             (try simp only [hl5_3])
             (try simp only [hl5_3] at BK151)
             cases gk with
             | zero => exact absurd HA.out (by simp [selvedgeref11_reach.l2])
             | succ k3 =>
              have H := HA.out
              clear HA
              simp only [selvedgeref11_reach.l2] at H
              by_cases c23 : x9_3 < (l0_2.length : Int)
              ·
               rw [if_pos c23] at H
               have c23b0 : decide (x9_3 < (l0_2.length : Int)) = true := decide_eq_true c23
               clear c23
               have H' := Aside0.mk H
               clear H
               have hcz24_0 : wr.cell? ⟨gb151, 0, none⟩ = some (.int .i64 a0_0) := (blk_cell BK151.out 0).trans rfl
               have hcz24_1 : wr.cell? ⟨gb151, 1, none⟩ = some (.int .i64 a0_1) := (blk_cell BK151.out 1).trans rfl
               have hcz24_2 : wr.cell? ⟨gb151, 2, none⟩ = some (.slice A0_2 l0_2.length c0_2) := (blk_cell BK151.out 2).trans rfl
               have hfz24_0 := blk_frozen BK151.out 0
               have hfz24_1 := blk_frozen BK151.out 1
               have hfz24_2 := blk_frozen BK151.out 2
               go_wp2
               repeat (go_quiet (fail); try go_wp2)
               go_loopg [8, 10] k3 (fun kq v8 v10 w' => ∃ (x5_4 : List Bool) (x8_4 : Bool) (x10_4 : Int), v8 = .bool x8_4 ∧ v10 = .int .i64 x10_4 ∧ Aside0 (selvedgeref11_reach.l3 kq x5_4 x8_4 x9_3 x10_4 a0_0 a0_1 l0_2 = some r) ∧ Aside0 (kq ≤ k3) ∧ Aside0 (Kd.R Kd.bool 4 w' w.heap.size (fun _ => True) (.slice (some ⟨go19, 0, none⟩) x5_3.length co19) x5_4) ∧ Aside0 (w'.heap[gb151]? = some (.cells #[.int .i64 a0_0, .int .i64 a0_1, (.slice A0_2 l0_2.length c0_2)] 24 (0, 0))) ∧ Aside0 (Below w.heap.size w w'))
               case atStart => exact ⟨(x5_3), (x8_3), (0), (by first | rfl | (simp; done) | (simp [*]; done)), (by first | rfl | (simp; done) | (simp [*]; done)), H', ⟨Nat.le_refl _⟩, ⟨by (try simp only [hl5_2]); (try simp only [hl5_3]); (with_reducible repeat (first | apply Kd.R_alloc | apply Kd.R_drewN | apply Kd.R_drew)); exact HO_5.out⟩, ⟨by (try simp only [hl5_2]); (try simp only [hl5_3]); (with_reducible repeat (first | refine blk_drewN ?_ _ | refine blk_drew ?_ | refine blk_alloc ?_ _)); exact BK151.out⟩, ⟨by repeat (first | (with_reducible first | exact HB.out | apply below_alloc | apply pw_below_drewN | apply below_drew1 | refine below_set ?_ GE151.out) | exact HB.out)⟩⟩
               case round =>
                clear H'
                try clear c1
                try clear p1
                try clear q1
                try clear hx1
                try clear c2
                try clear p2
                try clear c3
                try clear c3b0
                try clear c3b1
                try clear c4
                try clear c4b0
                try clear c4b1
                try clear p6
                try clear c8
                try clear c10
                try clear c10b0
                try clear c11
                try clear c11b0
                try clear c12
                try clear c12b0
                try clear c13
                try clear c13b0
                try clear c13b1
                try clear c15
                try clear p15
                try clear q15
                try clear hx15
                try clear c16
                try clear c16b0
                try clear c17
                try clear c17b0
                try clear c18
                try clear c18b0
                try clear p19
                try clear q19
                try clear hx19
                try clear hf19
                try clear c22
                try clear c23
                try clear c23b0
                try clear hcz14_0
                try clear hcz14_1
                try clear hcz14_2
                try clear hcz15_0
                try clear hcz15_1
                try clear hcz15_2
                try clear hcz24_0
                try clear hcz24_1
                try clear hcz24_2
                try clear hcz6_0
                try clear hcz6_1
                try clear hcz6_2
                try clear hcz9_0
                try clear hcz9_1
                try clear hcz9_2
                try clear hfz14_0
                try clear hfz14_1
                try clear hfz14_2
                try clear hfz15_0
                try clear hfz15_1
                try clear hfz15_2
                try clear hfz24_0
                try clear hfz24_1
                try clear hfz24_2
                try clear hfz6_0
                try clear hfz6_1
                try clear hfz6_2
                try clear hfz9_0
                try clear hfz9_1
                try clear hfz9_2
                try clear hx155_0
                try clear hx155_1
                try clear hx155_2
                try clear hx155_3
                try clear hx155_4
                try clear hx155_5
                try clear hx155_6
                try clear hx19_0
                try clear p1
                try clear p15
                try clear p155
                try clear p19
                try clear p2
                try clear p6
                try clear q1
                try clear q15
                try clear q155
                try clear q19
                obtain ⟨x5_4, x8_4, x10_4, rfl, rfl, HA, HK4, HO_5, BK151, HB⟩ := hrel
                have hl5_4 := (Kd.R_reads' HO_5.out).1
                rw [hl5_4] at HO_5
                (try simp only [hl5_4])
                (try simp only [hl5_4] at BK151)
                cases gk with
                | zero => exact absurd HA.out (by simp [selvedgeref11_reach.l3])
                | succ k4 =>
                 have H := HA.out
                 clear HA
                 simp only [selvedgeref11_reach.l3] at H
                 have HC25 := Aside0.mk H
                 clear H
                 go_upto_region 18 with (fail)
                 repeat (go_quiet (fail); go_upto_region 18 with (fail))
                 go_cut [57] (fun v57 wc => ∃ (kq : Nat) (x57_24 : Bool), v57 = .bool x57_24 ∧ Aside0 (selvedgeref11_reach.j4 kq x5_4 x8_4 x9_3 x10_4 x57_24 a0_0 a0_1 l0_2 = some r) ∧ Aside0 (kq ≤ k4) ∧ Aside0 (Kd.R Kd.bool 4 wc w.heap.size (fun _ => True) (.slice (some ⟨go19, 0, none⟩) x5_4.length co19) x5_4) ∧ Aside0 (wc.heap[gb151]? = some (.cells #[.int .i64 a0_0, .int .i64 a0_1, (.slice A0_2 l0_2.length c0_2)] 24 (0, 0))) ∧ Aside0 (Below w.heap.size w wc))
                 case first =>
                  have H := HC25.out
                  clear HC25
                  by_cases c26 : x10_4 < (l0_2.length : Int)
                  ·
                   rw [if_pos c26] at H
                   have c26b0 : decide (x10_4 < (l0_2.length : Int)) = true := decide_eq_true c26
                   clear c26
                   (first | rw [c26b0] | (simp only [i64_w, i32_w]; rw [c26b0]) | skip)
                   by_cases c27 : 0 ≤ x9_3
                   ·
                    rw [if_pos c27] at H
                    have c27b0 : decide (0 ≤ x9_3) = true := decide_eq_true c27
                    clear c27
                    by_cases c28 : x9_3 < (x5_4.length : Int)
                    ·
                     rw [if_pos c28] at H
                     have c28b0 : decide (x9_3 < (x5_4.length : Int)) = true := decide_eq_true c28
                     clear c28
                     have H' := Aside0.mk H
                     clear H
                     have hcz29_0 : wr.cell? ⟨gb151, 0, none⟩ = some (.int .i64 a0_0) := (blk_cell BK151.out 0).trans rfl
                     have hcz29_1 : wr.cell? ⟨gb151, 1, none⟩ = some (.int .i64 a0_1) := (blk_cell BK151.out 1).trans rfl
                     have hcz29_2 : wr.cell? ⟨gb151, 2, none⟩ = some (.slice A0_2 l0_2.length c0_2) := (blk_cell BK151.out 2).trans rfl
                     have hfz29_0 := blk_frozen BK151.out 0
                     have hfz29_1 := blk_frozen BK151.out 1
                     have hfz29_2 := blk_frozen BK151.out 2
                     have p157 : 0 ≤ (x9_3 : Int) := of_decide_eq_true (by first | (with_reducible assumption) | assumption)
                     have q157 : x9_3 < (x5_4.length : Int) := of_decide_eq_true (by first | (with_reducible assumption) | assumption)
                     obtain ⟨ad157, e157, hx157_0⟩ := Kd.at_bool (Kd.R_reads' HO_5.out).2.2 x9_3 p157 q157
                     obtain rfl : (⟨go19, 0, none⟩ : Addr) = ad157 := (by injection e157)
                     (first | simp only [add_plain] at hx157_0 | simp only [add_at] at hx157_0 | simp only [Addr.add, Nat.zero_add] at hx157_0 | skip)
                     replace p157 := eq_true p157
                     replace q157 := eq_true q157
                     go_wp2
                     repeat (go_quiet (fail); try go_wp2)
                     go_meet
                     case rel => exact ⟨_, (rdOf false x5_4 x9_3), (by first | rfl | (simp; done) | (simp [*]; done)), H', ⟨by have := HK1.out; have := HK2.out; have := HK3.out; have := HK4.out; first | omega | exact Nat.le_refl _⟩, ⟨by (try simp only [hl5_2]); (try simp only [hl5_3]); (try simp only [hl5_4]); (with_reducible repeat (first | apply Kd.R_alloc | apply Kd.R_drewN | apply Kd.R_drew)); exact HO_5.out⟩, ⟨by (try simp only [hl5_2]); (try simp only [hl5_3]); (try simp only [hl5_4]); (with_reducible repeat (first | refine blk_drewN ?_ _ | refine blk_drew ?_ | refine blk_alloc ?_ _)); exact BK151.out⟩, ⟨by repeat (first | (with_reducible first | exact HB.out | apply below_alloc | apply pw_below_drewN | apply below_drew1 | refine below_set ?_ GE151.out) | exact HB.out)⟩⟩
                    ·
                     rw [if_neg c28] at H
                     exact absurd H (by simp)
                   ·
                    rw [if_neg c27] at H
                    exact absurd H (by simp)
                  ·
                   rw [if_neg c26] at H
                   have c26b0 : decide (x10_4 < (l0_2.length : Int)) = false := decide_eq_false c26
                   clear c26
                   (first | rw [c26b0] | (simp only [i64_w, i32_w]; rw [c26b0]) | skip)
                   have H' := Aside0.mk H
                   clear H
                   have hcz30_0 : wr.cell? ⟨gb151, 0, none⟩ = some (.int .i64 a0_0) := (blk_cell BK151.out 0).trans rfl
                   have hcz30_1 : wr.cell? ⟨gb151, 1, none⟩ = some (.int .i64 a0_1) := (blk_cell BK151.out 1).trans rfl
                   have hcz30_2 : wr.cell? ⟨gb151, 2, none⟩ = some (.slice A0_2 l0_2.length c0_2) := (blk_cell BK151.out 2).trans rfl
                   have hfz30_0 := blk_frozen BK151.out 0
                   have hfz30_1 := blk_frozen BK151.out 1
                   have hfz30_2 := blk_frozen BK151.out 2
                   go_wp2
                   repeat (go_quiet (fail); try go_wp2)
                   go_meet
                   case rel => exact ⟨_, (false), (by first | rfl | (simp; done) | (simp [*]; done)), H', ⟨by have := HK1.out; have := HK2.out; have := HK3.out; have := HK4.out; first | omega | exact Nat.le_refl _⟩, ⟨by (try simp only [hl5_2]); (try simp only [hl5_3]); (try simp only [hl5_4]); (with_reducible repeat (first | apply Kd.R_alloc | apply Kd.R_drewN | apply Kd.R_drew)); exact HO_5.out⟩, ⟨by (try simp only [hl5_2]); (try simp only [hl5_3]); (try simp only [hl5_4]); (with_reducible repeat (first | refine blk_drewN ?_ _ | refine blk_drew ?_ | refine blk_alloc ?_ _)); exact BK151.out⟩, ⟨by repeat (first | (with_reducible first | exact HB.out | apply below_alloc | apply pw_below_drewN | apply below_drew1 | refine below_set ?_ GE151.out) | exact HB.out)⟩⟩
                 case rest =>
                  clear HC25
                  try clear c1
                  try clear p1
                  try clear q1
                  try clear hx1
                  try clear c2
                  try clear p2
                  try clear c3
                  try clear c3b0
                  try clear c3b1
                  try clear c4
                  try clear c4b0
                  try clear c4b1
                  try clear p6
                  try clear c8
                  try clear c10
                  try clear c10b0
                  try clear c11
                  try clear c11b0
                  try clear c12
                  try clear c12b0
                  try clear c13
                  try clear c13b0
                  try clear c13b1
                  try clear c15
                  try clear p15
                  try clear q15
                  try clear hx15
                  try clear c16
                  try clear c16b0
                  try clear c17
                  try clear c17b0
                  try clear c18
                  try clear c18b0
                  try clear p19
                  try clear q19
                  try clear hx19
                  try clear hf19
                  try clear c22
                  try clear c23
                  try clear c23b0
                  try clear c26
                  try clear c26b0
                  try clear c27
                  try clear c27b0
                  try clear c28
                  try clear c28b0
                  try clear hcz14_0
                  try clear hcz14_1
                  try clear hcz14_2
                  try clear hcz15_0
                  try clear hcz15_1
                  try clear hcz15_2
                  try clear hcz24_0
                  try clear hcz24_1
                  try clear hcz24_2
                  try clear hcz29_0
                  try clear hcz29_1
                  try clear hcz29_2
                  try clear hcz30_0
                  try clear hcz30_1
                  try clear hcz30_2
                  try clear hcz6_0
                  try clear hcz6_1
                  try clear hcz6_2
                  try clear hcz9_0
                  try clear hcz9_1
                  try clear hcz9_2
                  try clear hfz14_0
                  try clear hfz14_1
                  try clear hfz14_2
                  try clear hfz15_0
                  try clear hfz15_1
                  try clear hfz15_2
                  try clear hfz24_0
                  try clear hfz24_1
                  try clear hfz24_2
                  try clear hfz29_0
                  try clear hfz29_1
                  try clear hfz29_2
                  try clear hfz30_0
                  try clear hfz30_1
                  try clear hfz30_2
                  try clear hfz6_0
                  try clear hfz6_1
                  try clear hfz6_2
                  try clear hfz9_0
                  try clear hfz9_1
                  try clear hfz9_2
                  try clear hx155_0
                  try clear hx155_1
                  try clear hx155_2
                  try clear hx155_3
                  try clear hx155_4
                  try clear hx155_5
                  try clear hx155_6
                  try clear hx157_0
                  try clear hx19_0
                  try clear p1
                  try clear p15
                  try clear p155
                  try clear p157
                  try clear p19
                  try clear p2
                  try clear p6
                  try clear q1
                  try clear q15
                  try clear q155
                  try clear q157
                  try clear q19
                  obtain ⟨kq, x57_24, rfl, HA, HJ24, HO_5, BK151, HB⟩ := hcut
                  cases kq with
                  | zero => exact absurd HA.out (by simp [selvedgeref11_reach.j4])
                  | succ kj24 =>
                   have H := HA.out
                   clear HA
                   simp only [selvedgeref11_reach.j4] at H
                   by_cases c31 : x57_24 = true
                   ·
                    subst c31
                    have H1 : (if 0 ≤ x10_4 then (if x10_4 < (x5_4.length : Int) then (if rdOf false x5_4 x10_4 = true then (selvedgeref11_reach.j5 kj24 x5_4 x8_4 x9_3 x10_4 true a0_0 a0_1 l0_2) else (if x10_4 < (l0_2.length : Int) then (if 0 ≤ x9_3 then (if x9_3 < (l0_2.length : Int) then (selvedgeref11_reach.j5 kj24 x5_4 x8_4 x9_3 x10_4 (((rd_T37 l0_2 x10_4).f1.f1) != (wrap64 (((rd_T37 l0_2 x9_3).f1.f1) - 1))) a0_0 a0_1 l0_2) else (none)) else (none)) else (none))) else (none)) else (none)) = some r := by rw [if_pos rfl] at H; exact H
                    clear H
                    have H := H1
                    clear H1
                    have HC32 := Aside0.mk H
                    clear H
                    go_upto_region 20 with (fail)
                    repeat (go_quiet (fail); go_upto_region 20 with (fail))
                    go_cut [81] (fun v81 wc => ∃ (kq : Nat) (x81_31 : Bool), v81 = .bool x81_31 ∧ Aside0 (selvedgeref11_reach.j5 kq x5_4 x8_4 x9_3 x10_4 x81_31 a0_0 a0_1 l0_2 = some r) ∧ Aside0 (kq ≤ kj24) ∧ Aside0 (Kd.R Kd.bool 4 wc w.heap.size (fun _ => True) (.slice (some ⟨go19, 0, none⟩) x5_4.length co19) x5_4) ∧ Aside0 (wc.heap[gb151]? = some (.cells #[.int .i64 a0_0, .int .i64 a0_1, (.slice A0_2 l0_2.length c0_2)] 24 (0, 0))) ∧ Aside0 (Below w.heap.size w wc))
                    case first =>
                     have H := HC32.out
                     clear HC32
                     by_cases c33 : 0 ≤ x10_4
                     ·
                      rw [if_pos c33] at H
                      have c33b0 : decide (0 ≤ x10_4) = true := decide_eq_true c33
                      clear c33
                      (first | rw [c33b0] | (simp only [i64_w, i32_w]; rw [c33b0]) | skip)
                      by_cases c34 : x10_4 < (x5_4.length : Int)
                      ·
                       rw [if_pos c34] at H
                       have c34b0 : decide (x10_4 < (x5_4.length : Int)) = true := decide_eq_true c34
                       clear c34
                       obtain ⟨bq35, hbq35⟩ : ∃ b_ : Bool, b_ = (rdOf false x5_4 x10_4) := ⟨_, rfl⟩
                       replace H : (if bq35 = true then (selvedgeref11_reach.j5 kj24 x5_4 x8_4 x9_3 x10_4 true a0_0 a0_1 l0_2) else (if x10_4 < (l0_2.length : Int) then (if 0 ≤ x9_3 then (if x9_3 < (l0_2.length : Int) then (selvedgeref11_reach.j5 kj24 x5_4 x8_4 x9_3 x10_4 (((rd_T37 l0_2 x10_4).f1.f1) != (wrap64 (((rd_T37 l0_2 x9_3).f1.f1) - 1))) a0_0 a0_1 l0_2) else (none)) else (none)) else (none))) = some r := by rw [← hbq35] at H; exact H
                       have Nbq35 := Aside0.mk hbq35
                       clear hbq35
                       by_cases c36 : bq35 = true
                       ·
                        subst c36
                        have H1 : (selvedgeref11_reach.j5 kj24 x5_4 x8_4 x9_3 x10_4 true a0_0 a0_1 l0_2) = some r := by rw [if_pos rfl] at H; exact H
                        clear H
                        have H := H1
                        clear H1
                        have H' := Aside0.mk H
                        clear H
                        have p158 : 0 ≤ (x10_4 : Int) := of_decide_eq_true (by first | (with_reducible assumption) | assumption)
                        have q158 : x10_4 < (x5_4.length : Int) := of_decide_eq_true (by first | (with_reducible assumption) | assumption)
                        obtain ⟨ad158, e158, hx158_0⟩ := Kd.at_bool (Kd.R_reads' HO_5.out).2.2 x10_4 p158 q158
                        (try rw [← Nbq35.out] at hx158_0)
                        obtain rfl : (⟨go19, 0, none⟩ : Addr) = ad158 := (by injection e158)
                        (first | simp only [add_plain] at hx158_0 | simp only [add_at] at hx158_0 | simp only [Addr.add, Nat.zero_add] at hx158_0 | skip)
                        replace p158 := eq_true p158
                        replace q158 := eq_true q158
                        go_wp2
                        repeat (go_quiet (fail); try go_wp2)
                        go_meet
                        case rel => exact ⟨_, (true), (by first | rfl | (simp; done) | (simp [*]; done)), H', ⟨by have := HK1.out; have := HK2.out; have := HK3.out; have := HK4.out; have := HJ24.out; first | omega | exact Nat.le_refl _⟩, ⟨by (try simp only [hl5_2]); (try simp only [hl5_3]); (try simp only [hl5_4]); (with_reducible repeat (first | apply Kd.R_alloc | apply Kd.R_drewN | apply Kd.R_drew)); exact HO_5.out⟩, ⟨by (try simp only [hl5_2]); (try simp only [hl5_3]); (try simp only [hl5_4]); (with_reducible repeat (first | refine blk_drewN ?_ _ | refine blk_drew ?_ | refine blk_alloc ?_ _)); exact BK151.out⟩, ⟨by repeat (first | (with_reducible first | exact HB.out | apply below_alloc | apply pw_below_drewN | apply below_drew1 | refine below_set ?_ GE151.out) | exact HB.out)⟩⟩
                       ·
                        replace c36 := Bool.eq_false_iff.mpr c36
                        subst c36
                        have H1 : (if x10_4 < (l0_2.length : Int) then (if 0 ≤ x9_3 then (if x9_3 < (l0_2.length : Int) then (selvedgeref11_reach.j5 kj24 x5_4 x8_4 x9_3 x10_4 (((rd_T37 l0_2 x10_4).f1.f1) != (wrap64 (((rd_T37 l0_2 x9_3).f1.f1) - 1))) a0_0 a0_1 l0_2) else (none)) else (none)) else (none)) = some r := by rw [if_neg (show ¬ (false = true) by decide)] at H; exact H
                        clear H
                        have H := H1
                        clear H1
                        by_cases c37 : x10_4 < (l0_2.length : Int)
                        ·
                         rw [if_pos c37] at H
                         have c37b0 : decide (x10_4 < (l0_2.length : Int)) = true := decide_eq_true c37
                         clear c37
                         by_cases c38 : 0 ≤ x9_3
                         ·
                          rw [if_pos c38] at H
                          have c38b0 : decide (0 ≤ x9_3) = true := decide_eq_true c38
                          clear c38
                          by_cases c39 : x9_3 < (l0_2.length : Int)
                          ·
                           rw [if_pos c39] at H
                           have c39b0 : decide (x9_3 < (l0_2.length : Int)) = true := decide_eq_true c39
                           clear c39
                           have H' := Aside0.mk H
                           clear H
                           have p158 : 0 ≤ (x10_4 : Int) := of_decide_eq_true (by first | (with_reducible assumption) | assumption)
                           have q158 : x10_4 < (x5_4.length : Int) := of_decide_eq_true (by first | (with_reducible assumption) | assumption)
                           obtain ⟨ad158, e158, hx158_0⟩ := Kd.at_bool (Kd.R_reads' HO_5.out).2.2 x10_4 p158 q158
                           (try rw [← Nbq35.out] at hx158_0)
                           obtain rfl : (⟨go19, 0, none⟩ : Addr) = ad158 := (by injection e158)
                           (first | simp only [add_plain] at hx158_0 | simp only [add_at] at hx158_0 | simp only [Addr.add, Nat.zero_add] at hx158_0 | skip)
                           replace p158 := eq_true p158
                           replace q158 := eq_true q158
                           have hcz40_0 : wc.cell? ⟨gb151, 0, none⟩ = some (.int .i64 a0_0) := (blk_cell BK151.out 0).trans rfl
                           have hcz40_1 : wc.cell? ⟨gb151, 1, none⟩ = some (.int .i64 a0_1) := (blk_cell BK151.out 1).trans rfl
                           have hcz40_2 : wc.cell? ⟨gb151, 2, none⟩ = some (.slice A0_2 l0_2.length c0_2) := (blk_cell BK151.out 2).trans rfl
                           have hfz40_0 := blk_frozen BK151.out 0
                           have hfz40_1 := blk_frozen BK151.out 1
                           have hfz40_2 := blk_frozen BK151.out 2
                           have p159 : 0 ≤ (x10_4 : Int) := of_decide_eq_true (by first | (with_reducible assumption) | assumption)
                           have q159 : x10_4 < (l0_2.length : Int) := of_decide_eq_true (by first | (with_reducible assumption) | assumption)
                           obtain ⟨ad159, A159_3, c159_3, A159_4, c159_4, e159, hx159_0, hx159_1, hx159_2, hx159_3, hx159_4, hx159_5, hx159_6, hl159_3, hi159_3, hl159_4, hi159_4⟩ := at_T37 HR0_2.out x10_4 p159 q159
                           cases e159
                           replace hx159_0 := (HB.out.cell (World.block_lt_of_cell? w _ hx159_0)).trans hx159_0
                           replace hx159_1 := (HB.out.cell (World.block_lt_of_cell? w _ hx159_1)).trans hx159_1
                           replace hx159_2 := (HB.out.cell (World.block_lt_of_cell? w _ hx159_2)).trans hx159_2
                           replace hx159_3 := (HB.out.cell (World.block_lt_of_cell? w _ hx159_3)).trans hx159_3
                           replace hx159_4 := (HB.out.cell (World.block_lt_of_cell? w _ hx159_4)).trans hx159_4
                           replace hx159_5 := (HB.out.cell (World.block_lt_of_cell? w _ hx159_5)).trans hx159_5
                           replace hx159_6 := (HB.out.cell (World.block_lt_of_cell? w _ hx159_6)).trans hx159_6
                           have HR159_3 := Aside0.mk hi159_3
                           have HC159_3 := Aside0.mk hl159_3
                           clear hi159_3 hl159_3
                           have HR159_4 := Aside0.mk hi159_4
                           have HC159_4 := Aside0.mk hl159_4
                           clear hi159_4 hl159_4
                           replace p159 := eq_true p159
                           replace q159 := eq_true q159
                           have p160 : 0 ≤ (x9_3 : Int) := of_decide_eq_true (by first | (with_reducible assumption) | assumption)
                           have q160 : x9_3 < (l0_2.length : Int) := of_decide_eq_true (by first | (with_reducible assumption) | assumption)
                           obtain ⟨ad160, A160_3, c160_3, A160_4, c160_4, e160, hx160_0, hx160_1, hx160_2, hx160_3, hx160_4, hx160_5, hx160_6, hl160_3, hi160_3, hl160_4, hi160_4⟩ := at_T37 HR0_2.out x9_3 p160 q160
                           obtain rfl : ad159 = ad160 := (by injection e160)
                           replace hx160_0 := (HB.out.cell (World.block_lt_of_cell? w _ hx160_0)).trans hx160_0
                           replace hx160_1 := (HB.out.cell (World.block_lt_of_cell? w _ hx160_1)).trans hx160_1
                           replace hx160_2 := (HB.out.cell (World.block_lt_of_cell? w _ hx160_2)).trans hx160_2
                           replace hx160_3 := (HB.out.cell (World.block_lt_of_cell? w _ hx160_3)).trans hx160_3
                           replace hx160_4 := (HB.out.cell (World.block_lt_of_cell? w _ hx160_4)).trans hx160_4
                           replace hx160_5 := (HB.out.cell (World.block_lt_of_cell? w _ hx160_5)).trans hx160_5
                           replace hx160_6 := (HB.out.cell (World.block_lt_of_cell? w _ hx160_6)).trans hx160_6
                           have HR160_3 := Aside0.mk hi160_3
                           have HC160_3 := Aside0.mk hl160_3
                           clear hi160_3 hl160_3
                           have HR160_4 := Aside0.mk hi160_4
                           have HC160_4 := Aside0.mk hl160_4
                           clear hi160_4 hl160_4
                           replace p160 := eq_true p160
                           replace q160 := eq_true q160
                           go_wp2
                           repeat (go_quiet (fail); try go_wp2)
                           go_meet
                           case rel => exact ⟨_, ((((rd_T37 l0_2 x10_4).f1.f1) != (wrap64 (((rd_T37 l0_2 x9_3).f1.f1) - 1)))), (by first | rfl | (simp; done) | (simp [*]; done)), H', ⟨by have := HK1.out; have := HK2.out; have := HK3.out; have := HK4.out; have := HJ24.out; first | omega | exact Nat.le_refl _⟩, ⟨by (try simp only [hl5_2]); (try simp only [hl5_3]); (try simp only [hl5_4]); (with_reducible repeat (first | apply Kd.R_alloc | apply Kd.R_drewN | apply Kd.R_drew)); exact HO_5.out⟩, ⟨by (try simp only [hl5_2]); (try simp only [hl5_3]); (try simp only [hl5_4]); (with_reducible repeat (first | refine blk_drewN ?_ _ | refine blk_drew ?_ | refine blk_alloc ?_ _)); exact BK151.out⟩, ⟨by repeat (first | (with_reducible first | exact HB.out | apply below_alloc | apply pw_below_drewN | apply below_drew1 | refine below_set ?_ GE151.out) | exact HB.out)⟩⟩
                          ·
                           rw [if_neg c39] at H
                           exact absurd H (by simp)
                         ·
                          rw [if_neg c38] at H
                          exact absurd H (by simp)
                        ·
                         rw [if_neg c37] at H
                         exact absurd H (by simp)
                      ·
                       rw [if_neg c34] at H
                       exact absurd H (by simp)
                     ·
                      rw [if_neg c33] at H
                      exact absurd H (by simp)
                    case rest =>
                     clear HC32
                     try clear c1
                     try clear p1
                     try clear q1
                     try clear hx1
                     try clear c2
                     try clear p2
                     try clear c3
                     try clear c3b0
                     try clear c3b1
                     try clear q3
                     try clear c4
                     try clear c4b0
                     try clear c4b1
                     try clear p6
                     try clear c8
                     try clear c10
                     try clear c10b0
                     try clear c11
                     try clear c11b0
                     try clear c12
                     try clear c12b0
                     try clear c13
                     try clear c13b0
                     try clear c13b1
                     try clear c15
                     try clear p15
                     try clear q15
                     try clear hx15
                     try clear c16
                     try clear c16b0
                     try clear p16
                     try clear q16
                     try clear hx16
                     try clear c17
                     try clear c17b0
                     try clear c18
                     try clear c18b0
                     try clear p19
                     try clear q19
                     try clear hx19
                     try clear hf19
                     try clear c22
                     try clear c23
                     try clear c23b0
                     try clear c26
                     try clear c26b0
                     try clear c27
                     try clear c27b0
                     try clear c28
                     try clear c28b0
                     try clear c31
                     try clear c33
                     try clear c33b0
                     try clear c34
                     try clear c34b0
                     try clear q35
                     try clear c36
                     try clear c37
                     try clear c37b0
                     try clear c38
                     try clear c38b0
                     try clear c39
                     try clear c39b0
                     try clear hcz14_0
                     try clear hcz14_1
                     try clear hcz14_2
                     try clear hcz15_0
                     try clear hcz15_1
                     try clear hcz15_2
                     try clear hcz24_0
                     try clear hcz24_1
                     try clear hcz24_2
                     try clear hcz29_0
                     try clear hcz29_1
                     try clear hcz29_2
                     try clear hcz30_0
                     try clear hcz30_1
                     try clear hcz30_2
                     try clear hcz40_0
                     try clear hcz40_1
                     try clear hcz40_2
                     try clear hcz6_0
                     try clear hcz6_1
                     try clear hcz6_2
                     try clear hcz9_0
                     try clear hcz9_1
                     try clear hcz9_2
                     try clear hfz14_0
                     try clear hfz14_1
                     try clear hfz14_2
                     try clear hfz15_0
                     try clear hfz15_1
                     try clear hfz15_2
                     try clear hfz24_0
                     try clear hfz24_1
                     try clear hfz24_2
                     try clear hfz29_0
                     try clear hfz29_1
                     try clear hfz29_2
                     try clear hfz30_0
                     try clear hfz30_1
                     try clear hfz30_2
                     try clear hfz40_0
                     try clear hfz40_1
                     try clear hfz40_2
                     try clear hfz6_0
                     try clear hfz6_1
                     try clear hfz6_2
                     try clear hfz9_0
                     try clear hfz9_1
                     try clear hfz9_2
                     try clear hx155_0
                     try clear hx155_1
                     try clear hx155_2
                     try clear hx155_3
                     try clear hx155_4
                     try clear hx155_5
                     try clear hx155_6
                     try clear hx157_0
                     try clear hx158_0
                     try clear hx159_0
                     try clear hx159_1
                     try clear hx159_2
                     try clear hx159_3
                     try clear hx159_4
                     try clear hx159_5
                     try clear hx159_6
                     try clear hx160_0
                     try clear hx160_1
                     try clear hx160_2
                     try clear hx160_3
                     try clear hx160_4
                     try clear hx160_5
                     try clear hx160_6
                     try clear hx19_0
                     try clear p1
                     try clear p15
                     try clear p155
                     try clear p157
                     try clear p158
                     try clear p159
                     try clear p160
                     try clear p19
                     try clear p2
                     try clear p6
                     try clear q1
                     try clear q15
                     try clear q155
                     try clear q157
                     try clear q158
                     try clear q159
                     try clear q160
                     try clear q19
                     obtain ⟨kq, x81_31, rfl, HA, HJ31, HO_5, BK151, HB⟩ := hcut
                     cases kq with
                     | zero => exact absurd HA.out (by simp [selvedgeref11_reach.j5])
                     | succ kj31 =>
                      have H := HA.out
                      clear HA
                      simp only [selvedgeref11_reach.j5] at H
                      by_cases c41 : x81_31 = true
                      ·
                       subst c41
                       have H1 : (selvedgeref11_reach.l3 kj31 x5_4 x8_4 x9_3 (wrap64 (x10_4 + 1)) a0_0 a0_1 l0_2) = some r := by rw [if_pos rfl] at H; exact H
                       clear H
                       have H := H1
                       clear H1
                       have H' := Aside0.mk H
                       clear H
                       go_wp2
                       repeat (go_quiet (fail); try go_wp2)
                       (try simp only [← hl5_4])
                       go_roundg kj31
                       case measure => have := HK1.out; have := HK2.out; have := HK3.out; have := HK4.out; have := HJ24.out; have := HJ31.out; omega
                       case rel => exact ⟨(x5_4), (x8_4), (wrap64 (x10_4 + 1)), (by first | rfl | (simp; done) | (simp [*]; done)), (by first | rfl | (simp; done) | (simp [*]; done)), H', ⟨by have := HK1.out; have := HK2.out; have := HK3.out; have := HK4.out; have := HJ24.out; have := HJ31.out; omega⟩, ⟨by (try simp only [hl5_2]); (try simp only [hl5_3]); (try simp only [hl5_4]); (with_reducible repeat (first | apply Kd.R_alloc | apply Kd.R_drewN | apply Kd.R_drew)); exact HO_5.out⟩, ⟨by (try simp only [hl5_2]); (try simp only [hl5_3]); (try simp only [hl5_4]); (with_reducible repeat (first | refine blk_drewN ?_ _ | refine blk_drew ?_ | refine blk_alloc ?_ _)); exact BK151.out⟩, ⟨by repeat (first | (with_reducible first | exact HB.out | apply below_alloc | apply pw_below_drewN | apply below_drew1 | refine below_set ?_ GE151.out) | exact HB.out)⟩⟩
                      ·
                       replace c41 := Bool.eq_false_iff.mpr c41
                       subst c41
                       have H1 : (selvedgeref11_reach.l4 kj31 x5_4 x8_4 x9_3 x10_4 0 a0_0 a0_1 l0_2) = some r := by rw [if_neg (show ¬ (false = true) by decide)] at H; exact H
                       clear H
                       have H := H1
                       clear H1
                       have H' := Aside0.mk H
                       clear H
                       go_wp2
                       repeat (go_quiet (fail); try go_wp2)
                       go_loopg [8, 11] kj31 (fun kq v8 v11 w' => ∃ (x5_7 : List Bool) (x8_7 : Bool) (x11_7 : Int), v8 = .bool x8_7 ∧ v11 = .int .i64 x11_7 ∧ Aside0 (selvedgeref11_reach.l4 kq x5_7 x8_7 x9_3 x10_4 x11_7 a0_0 a0_1 l0_2 = some r) ∧ Aside0 (kq ≤ kj31) ∧ Aside0 (Kd.R Kd.bool 4 w' w.heap.size (fun _ => True) (.slice (some ⟨go19, 0, none⟩) x5_4.length co19) x5_7) ∧ Aside0 (w'.heap[gb151]? = some (.cells #[.int .i64 a0_0, .int .i64 a0_1, (.slice A0_2 l0_2.length c0_2)] 24 (0, 0))) ∧ Aside0 (Below w.heap.size w w'))
                       case atStart => exact ⟨(x5_4), (x8_4), (0), (by first | rfl | (simp; done) | (simp [*]; done)), (by first | rfl | (simp; done) | (simp [*]; done)), H', ⟨Nat.le_refl _⟩, ⟨by (try simp only [hl5_2]); (try simp only [hl5_3]); (try simp only [hl5_4]); (with_reducible repeat (first | apply Kd.R_alloc | apply Kd.R_drewN | apply Kd.R_drew)); exact HO_5.out⟩, ⟨by (try simp only [hl5_2]); (try simp only [hl5_3]); (try simp only [hl5_4]); (with_reducible repeat (first | refine blk_drewN ?_ _ | refine blk_drew ?_ | refine blk_alloc ?_ _)); exact BK151.out⟩, ⟨by repeat (first | (with_reducible first | exact HB.out | apply below_alloc | apply pw_below_drewN | apply below_drew1 | refine below_set ?_ GE151.out) | exact HB.out)⟩⟩
                       case round =>
                        clear H'
                        try clear c1
                        try clear p1
                        try clear q1
                        try clear hx1
                        try clear c2
                        try clear p2
                        try clear c3
                        try clear c3b0
                        try clear c3b1
                        try clear q3
                        try clear c4
                        try clear c4b0
                        try clear c4b1
                        try clear p6
                        try clear c8
                        try clear c10
                        try clear c10b0
                        try clear c11
                        try clear c11b0
                        try clear c12
                        try clear c12b0
                        try clear c13
                        try clear c13b0
                        try clear c13b1
                        try clear c15
                        try clear p15
                        try clear q15
                        try clear hx15
                        try clear c16
                        try clear c16b0
                        try clear p16
                        try clear q16
                        try clear hx16
                        try clear c17
                        try clear c17b0
                        try clear c18
                        try clear c18b0
                        try clear p19
                        try clear q19
                        try clear hx19
                        try clear hf19
                        try clear c22
                        try clear c23
                        try clear c23b0
                        try clear c26
                        try clear c26b0
                        try clear c27
                        try clear c27b0
                        try clear c28
                        try clear c28b0
                        try clear c31
                        try clear c33
                        try clear c33b0
                        try clear c34
                        try clear c34b0
                        try clear q35
                        try clear c36
                        try clear c37
                        try clear c37b0
                        try clear c38
                        try clear c38b0
                        try clear c39
                        try clear c39b0
                        try clear c41
                        try clear hcz14_0
                        try clear hcz14_1
                        try clear hcz14_2
                        try clear hcz15_0
                        try clear hcz15_1
                        try clear hcz15_2
                        try clear hcz24_0
                        try clear hcz24_1
                        try clear hcz24_2
                        try clear hcz29_0
                        try clear hcz29_1
                        try clear hcz29_2
                        try clear hcz30_0
                        try clear hcz30_1
                        try clear hcz30_2
                        try clear hcz40_0
                        try clear hcz40_1
                        try clear hcz40_2
                        try clear hcz6_0
                        try clear hcz6_1
                        try clear hcz6_2
                        try clear hcz9_0
                        try clear hcz9_1
                        try clear hcz9_2
                        try clear hfz14_0
                        try clear hfz14_1
                        try clear hfz14_2
                        try clear hfz15_0
                        try clear hfz15_1
                        try clear hfz15_2
                        try clear hfz24_0
                        try clear hfz24_1
                        try clear hfz24_2
                        try clear hfz29_0
                        try clear hfz29_1
                        try clear hfz29_2
                        try clear hfz30_0
                        try clear hfz30_1
                        try clear hfz30_2
                        try clear hfz40_0
                        try clear hfz40_1
                        try clear hfz40_2
                        try clear hfz6_0
                        try clear hfz6_1
                        try clear hfz6_2
                        try clear hfz9_0
                        try clear hfz9_1
                        try clear hfz9_2
                        try clear hx155_0
                        try clear hx155_1
                        try clear hx155_2
                        try clear hx155_3
                        try clear hx155_4
                        try clear hx155_5
                        try clear hx155_6
                        try clear hx157_0
                        try clear hx158_0
                        try clear hx159_0
                        try clear hx159_1
                        try clear hx159_2
                        try clear hx159_3
                        try clear hx159_4
                        try clear hx159_5
                        try clear hx159_6
                        try clear hx160_0
                        try clear hx160_1
                        try clear hx160_2
                        try clear hx160_3
                        try clear hx160_4
                        try clear hx160_5
                        try clear hx160_6
                        try clear hx19_0
                        try clear p1
                        try clear p15
                        try clear p155
                        try clear p157
                        try clear p158
                        try clear p159
                        try clear p16
                        try clear p160
                        try clear p19
                        try clear p2
                        try clear p6
                        try clear q1
                        try clear q15
                        try clear q155
                        try clear q157
                        try clear q158
                        try clear q159
                        try clear q16
                        try clear q160
                        try clear q19
                        try clear q3
                        try clear q35
                        obtain ⟨x5_7, x8_7, x11_7, rfl, rfl, HA, HK7, HO_5, BK151, HB⟩ := hrel
                        have hl5_7 := (Kd.R_reads' HO_5.out).1
                        rw [hl5_7] at HO_5
                        (try simp only [hl5_7])
                        (try simp only [hl5_7] at BK151)
                        cases gk with
                        | zero => exact absurd HA.out (by simp [selvedgeref11_reach.l4])
                        | succ k7 =>
                         have H := HA.out
                         clear HA
                         simp only [selvedgeref11_reach.l4] at H
                         by_cases c42 : 0 ≤ x9_3
                         ·
                          rw [if_pos c42] at H
                          have c42b0 : decide (0 ≤ x9_3) = true := decide_eq_true c42
                          clear c42
                          by_cases c43 : x9_3 < (l0_2.length : Int)
                          ·
                           rw [if_pos c43] at H
                           have c43b0 : decide (x9_3 < (l0_2.length : Int)) = true := decide_eq_true c43
                           clear c43
                           by_cases c44 : x11_7 < (((rd_T37 l0_2 x9_3).f1.f3).length : Int)
                           ·
                            rw [if_pos c44] at H
                            have c44b0 : decide (x11_7 < (((rd_T37 l0_2 x9_3).f1.f3).length : Int)) = true := decide_eq_true c44
                            clear c44
                            by_cases c45 : 0 ≤ x11_7
                            ·
                             rw [if_pos c45] at H
                             have c45b0 : decide (0 ≤ x11_7) = true := decide_eq_true c45
                             clear c45
                             by_cases c46 : 0 ≤ x10_4
                             ·
                              rw [if_pos c46] at H
                              have c46b0 : decide (0 ≤ x10_4) = true := decide_eq_true c46
                              clear c46
                              by_cases c47 : x10_4 < (l0_2.length : Int)
                              ·
                               rw [if_pos c47] at H
                               have c47b0 : decide (x10_4 < (l0_2.length : Int)) = true := decide_eq_true c47
                               clear c47
                               by_cases c48 : (rdOf ByteArray.empty ((rd_T37 l0_2 x9_3).f1.f3) x11_7).toList = ((rd_T37 l0_2 x10_4).f0).toList
                               ·
                                rw [if_pos c48] at H
                                have c48b0 : ((rdOf ByteArray.empty ((rd_T37 l0_2 x9_3).f1.f3) x11_7).toList == ((rd_T37 l0_2 x10_4).f0).toList) = true := beq_iff_eq.mpr c48
                                have c48b1 : ((rdOf ByteArray.empty ((rd_T37 l0_2 x9_3).f1.f3) x11_7).toList != ((rd_T37 l0_2 x10_4).f0).toList) = false := bne_eq_false_iff_eq.mpr c48
                                clear c48
                                by_cases c49 : x10_4 < (x5_7.length : Int)
                                ·
                                 rw [if_pos c49] at H
                                 have c49b0 : decide (x10_4 < (x5_7.length : Int)) = true := decide_eq_true c49
                                 clear c49
                                 obtain ⟨y165, hy165⟩ : ∃ y_ : List Bool, y_ = (x5_7.set (x10_4 : Int).toNat true) := ⟨_, rfl⟩
                                 replace H : (selvedgeref11_reach.l4 k7 y165 true x9_3 x10_4 (wrap64 (x11_7 + 1)) a0_0 a0_1 l0_2) = some r := by first | (rw [hy165]; with_reducible exact H) | (have H2_ := (Option.bind_some _ _).symm.trans H; rw [hy165]; with_reducible exact H2_) | (have H2_ := (Option.bind_some _ _).symm.trans H; with_reducible exact H2_) | with_reducible exact H | (rw [hy165]; exact H) | exact H
                                 have Ny165 := Aside0.mk hy165
                                 clear hy165
                                 have H' := Aside0.mk H
                                 clear H
                                 have hcz51_0 : wr.cell? ⟨gb151, 0, none⟩ = some (.int .i64 a0_0) := (blk_cell BK151.out 0).trans rfl
                                 have hcz51_1 : wr.cell? ⟨gb151, 1, none⟩ = some (.int .i64 a0_1) := (blk_cell BK151.out 1).trans rfl
                                 have hcz51_2 : wr.cell? ⟨gb151, 2, none⟩ = some (.slice A0_2 l0_2.length c0_2) := (blk_cell BK151.out 2).trans rfl
                                 have hfz51_0 := blk_frozen BK151.out 0
                                 have hfz51_1 := blk_frozen BK151.out 1
                                 have hfz51_2 := blk_frozen BK151.out 2
                                 have p161 : 0 ≤ (x9_3 : Int) := of_decide_eq_true (by first | (with_reducible assumption) | assumption)
                                 have q161 : x9_3 < (l0_2.length : Int) := of_decide_eq_true (by first | (with_reducible assumption) | assumption)
                                 obtain ⟨ad161, A161_3, c161_3, A161_4, c161_4, e161, hx161_0, hx161_1, hx161_2, hx161_3, hx161_4, hx161_5, hx161_6, hl161_3, hi161_3, hl161_4, hi161_4⟩ := at_T37 HR0_2.out x9_3 p161 q161
                                 cases e161
                                 replace hx161_0 := (HB.out.cell (World.block_lt_of_cell? w _ hx161_0)).trans hx161_0
                                 replace hx161_1 := (HB.out.cell (World.block_lt_of_cell? w _ hx161_1)).trans hx161_1
                                 replace hx161_2 := (HB.out.cell (World.block_lt_of_cell? w _ hx161_2)).trans hx161_2
                                 replace hx161_3 := (HB.out.cell (World.block_lt_of_cell? w _ hx161_3)).trans hx161_3
                                 replace hx161_4 := (HB.out.cell (World.block_lt_of_cell? w _ hx161_4)).trans hx161_4
                                 replace hx161_5 := (HB.out.cell (World.block_lt_of_cell? w _ hx161_5)).trans hx161_5
                                 replace hx161_6 := (HB.out.cell (World.block_lt_of_cell? w _ hx161_6)).trans hx161_6
                                 have HR161_3 := Aside0.mk hi161_3
                                 have HC161_3 := Aside0.mk hl161_3
                                 clear hi161_3 hl161_3
                                 have HR161_4 := Aside0.mk hi161_4
                                 have HC161_4 := Aside0.mk hl161_4
                                 clear hi161_4 hl161_4
                                 replace p161 := eq_true p161
                                 replace q161 := eq_true q161
                                 have p162 : 0 ≤ (x9_3 : Int) := of_decide_eq_true (by first | (with_reducible assumption) | assumption)
                                 have q162 : x9_3 < (l0_2.length : Int) := of_decide_eq_true (by first | (with_reducible assumption) | assumption)
                                 obtain ⟨ad162, A162_3, c162_3, A162_4, c162_4, e162, hx162_0, hx162_1, hx162_2, hx162_3, hx162_4, hx162_5, hx162_6, hl162_3, hi162_3, hl162_4, hi162_4⟩ := at_T37 HR0_2.out x9_3 p162 q162
                                 obtain rfl : ad161 = ad162 := (by injection e162)
                                 replace hx162_0 := (HB.out.cell (World.block_lt_of_cell? w _ hx162_0)).trans hx162_0
                                 replace hx162_1 := (HB.out.cell (World.block_lt_of_cell? w _ hx162_1)).trans hx162_1
                                 replace hx162_2 := (HB.out.cell (World.block_lt_of_cell? w _ hx162_2)).trans hx162_2
                                 replace hx162_3 := (HB.out.cell (World.block_lt_of_cell? w _ hx162_3)).trans hx162_3
                                 replace hx162_4 := (HB.out.cell (World.block_lt_of_cell? w _ hx162_4)).trans hx162_4
                                 replace hx162_5 := (HB.out.cell (World.block_lt_of_cell? w _ hx162_5)).trans hx162_5
                                 replace hx162_6 := (HB.out.cell (World.block_lt_of_cell? w _ hx162_6)).trans hx162_6
                                 have HR162_3 := Aside0.mk hi162_3
                                 have HC162_3 := Aside0.mk hl162_3
                                 clear hi162_3 hl162_3
                                 have HR162_4 := Aside0.mk hi162_4
                                 have HC162_4 := Aside0.mk hl162_4
                                 clear hi162_4 hl162_4
                                 replace p162 := eq_true p162
                                 replace q162 := eq_true q162
                                 have ea_ := Option.some.inj (hx161_3.symm.trans hx162_3)
                                 injection ea_ with ea_ en_ ec_
                                 subst ea_
                                 subst ec_
                                 clear en_
                                 have ea_ := Option.some.inj (hx161_4.symm.trans hx162_4)
                                 injection ea_ with ea_ en_ ec_
                                 subst ea_
                                 subst ec_
                                 clear en_
                                 have p163 : 0 ≤ (x11_7 : Int) := of_decide_eq_true (by first | (with_reducible assumption) | assumption)
                                 have q163 : x11_7 < (((rd_T37 l0_2 x9_3).f1.f3).length : Int) := of_decide_eq_true (by first | (with_reducible assumption) | assumption)
                                 obtain ⟨ad163, e163, hx163_0⟩ := Kd.at_string HR162_4.out x11_7 p163 q163
                                 cases e163
                                 replace hx163_0 := (HB.out.cell (World.block_lt_of_cell? w _ hx163_0)).trans hx163_0
                                 replace p163 := eq_true p163
                                 replace q163 := eq_true q163
                                 have p164 : 0 ≤ (x10_4 : Int) := of_decide_eq_true (by first | (with_reducible assumption) | assumption)
                                 have q164 : x10_4 < (l0_2.length : Int) := of_decide_eq_true (by first | (with_reducible assumption) | assumption)
                                 obtain ⟨ad164, A164_3, c164_3, A164_4, c164_4, e164, hx164_0, hx164_1, hx164_2, hx164_3, hx164_4, hx164_5, hx164_6, hl164_3, hi164_3, hl164_4, hi164_4⟩ := at_T37 HR0_2.out x10_4 p164 q164
                                 obtain rfl : ad161 = ad164 := (by injection e164)
                                 replace hx164_0 := (HB.out.cell (World.block_lt_of_cell? w _ hx164_0)).trans hx164_0
                                 replace hx164_1 := (HB.out.cell (World.block_lt_of_cell? w _ hx164_1)).trans hx164_1
                                 replace hx164_2 := (HB.out.cell (World.block_lt_of_cell? w _ hx164_2)).trans hx164_2
                                 replace hx164_3 := (HB.out.cell (World.block_lt_of_cell? w _ hx164_3)).trans hx164_3
                                 replace hx164_4 := (HB.out.cell (World.block_lt_of_cell? w _ hx164_4)).trans hx164_4
                                 replace hx164_5 := (HB.out.cell (World.block_lt_of_cell? w _ hx164_5)).trans hx164_5
                                 replace hx164_6 := (HB.out.cell (World.block_lt_of_cell? w _ hx164_6)).trans hx164_6
                                 have HR164_3 := Aside0.mk hi164_3
                                 have HC164_3 := Aside0.mk hl164_3
                                 clear hi164_3 hl164_3
                                 have HR164_4 := Aside0.mk hi164_4
                                 have HC164_4 := Aside0.mk hl164_4
                                 clear hi164_4 hl164_4
                                 replace p164 := eq_true p164
                                 replace q164 := eq_true q164
                                 have p50 : 0 ≤ (x10_4 : Int) := of_decide_eq_true (by first | (with_reducible assumption) | assumption)
                                 have q50 : (x10_4 : Int) < ((x5_7.length : Int) : Int) := of_decide_eq_true (by first | (with_reducible assumption) | assumption)
                                 obtain ⟨hx50_0, hf50_0⟩ := Kd.R_celln false HO_5.out (x10_4 : Int) p50 q50
                                 replace p50 := eq_true p50
                                 replace q50 := eq_true q50
                                 have HP52 := Kd.R_putg HO_5.out (x10_4 : Int) true
                                 go_wp2_with (first | ((with_reducible refine gate_store (t := 4) (p := 113) rfl ?_); (try (rw [drewN_self wr]; generalize hq_ : World.drewN wr _ = wr; have n0_ := Aside0.mk (Kd.R_at hq_ HO_5.out); have n1_ := Aside0.mk (blk_at hq_ BK151.out); have n2_ := Aside0.mk (below_at hq_ HB.out); clear hq_ HO_5 BK151 HB; have HO_5 := n0_; have BK151 := n1_; have HB := n2_; clear n0_ n1_ n2_; (try (have HP52 := Kd.R_putg HO_5.out (x10_4 : Int) true)); (try (obtain ⟨hx50_0, hf50_0⟩ := Kd.R_celln false HO_5.out (x10_4 : Int) (of_eq_true p50) (of_eq_true q50))))); refine store_event (t := 4) (p := 113) (v := ?vo_w53) (w1 := (wr.setCell ⟨go19, (x10_4 : Int).toNat, none⟩ (.bool true))) ?hg ?ho ?hn ?hr ?_; (case ho => rfl); (case hg => rfl); (case hn => rfl); (case hr => first | (go_simp; done) | (go_simp; rfl)); intro w53 hw; have hg : wr.grownBy w53 (some go19) := (by rw [hw]; exact HP52.2); have hp_ : Kd.R Kd.bool 4 w53 w.heap.size (fun _ => True) (.slice (some ⟨go19, 0, none⟩) x5_7.length co19) y165 := (by rw [hw, Ny165.out]; exact HP52.1); clear HP52; have n0_ := Aside0.mk (hp_); have n1_ := Aside0.mk (blk_grown (g := gb151) (o := .cells #[.int .i64 a0_0, .int .i64 a0_1, .slice (some ad161) l0_2.length c0_2] 24 (0, 0)) (pB BK151.out) hg (Kd.R_ne HO_5.out BK151.out (by decide))); have n2_ := Aside0.mk ((by rw [hw]; exact below_set (HB.out) GB19.out : Below w.heap.size w w53)); clear HO_5; clear BK151; clear HB; have HO_5 := n0_; have BK151 := n1_; have HB := n2_; clear n0_ n1_ n2_; clear hg hw hp_))
                                 (try simp only [Act.put, List.setIfInBounds_toArray, List.set_cons_zero, List.set_cons_succ])
                                 repeat (go_quiet (first | ((with_reducible refine gate_store (t := 4) (p := 113) rfl ?_); (try (rw [drewN_self wr]; generalize hq_ : World.drewN wr _ = wr; have n0_ := Aside0.mk (Kd.R_at hq_ HO_5.out); have n1_ := Aside0.mk (blk_at hq_ BK151.out); have n2_ := Aside0.mk (below_at hq_ HB.out); clear hq_ HO_5 BK151 HB; have HO_5 := n0_; have BK151 := n1_; have HB := n2_; clear n0_ n1_ n2_; (try (have HP52 := Kd.R_putg HO_5.out (x10_4 : Int) true)); (try (obtain ⟨hx50_0, hf50_0⟩ := Kd.R_celln false HO_5.out (x10_4 : Int) (of_eq_true p50) (of_eq_true q50))))); refine store_event (t := 4) (p := 113) (v := ?vo_w53) (w1 := (wr.setCell ⟨go19, (x10_4 : Int).toNat, none⟩ (.bool true))) ?hg ?ho ?hn ?hr ?_; (case ho => rfl); (case hg => rfl); (case hn => rfl); (case hr => first | (go_simp; done) | (go_simp; rfl)); intro w53 hw; have hg : wr.grownBy w53 (some go19) := (by rw [hw]; exact HP52.2); have hp_ : Kd.R Kd.bool 4 w53 w.heap.size (fun _ => True) (.slice (some ⟨go19, 0, none⟩) x5_7.length co19) y165 := (by rw [hw, Ny165.out]; exact HP52.1); clear HP52; have n0_ := Aside0.mk (hp_); have n1_ := Aside0.mk (blk_grown (g := gb151) (o := .cells #[.int .i64 a0_0, .int .i64 a0_1, .slice (some ad161) l0_2.length c0_2] 24 (0, 0)) (pB BK151.out) hg (Kd.R_ne HO_5.out BK151.out (by decide))); have n2_ := Aside0.mk ((by rw [hw]; exact below_set (HB.out) GB19.out : Below w.heap.size w w53)); clear HO_5; clear BK151; clear HB; have HO_5 := n0_; have BK151 := n1_; have HB := n2_; clear n0_ n1_ n2_; clear hg hw hp_)); try go_wp2_with (first | ((with_reducible refine gate_store (t := 4) (p := 113) rfl ?_); (try (rw [drewN_self wr]; generalize hq_ : World.drewN wr _ = wr; have n0_ := Aside0.mk (Kd.R_at hq_ HO_5.out); have n1_ := Aside0.mk (blk_at hq_ BK151.out); have n2_ := Aside0.mk (below_at hq_ HB.out); clear hq_ HO_5 BK151 HB; have HO_5 := n0_; have BK151 := n1_; have HB := n2_; clear n0_ n1_ n2_; (try (have HP52 := Kd.R_putg HO_5.out (x10_4 : Int) true)); (try (obtain ⟨hx50_0, hf50_0⟩ := Kd.R_celln false HO_5.out (x10_4 : Int) (of_eq_true p50) (of_eq_true q50))))); refine store_event (t := 4) (p := 113) (v := ?vo_w53) (w1 := (wr.setCell ⟨go19, (x10_4 : Int).toNat, none⟩ (.bool true))) ?hg ?ho ?hn ?hr ?_; (case ho => rfl); (case hg => rfl); (case hn => rfl); (case hr => first | (go_simp; done) | (go_simp; rfl)); intro w53 hw; have hg : wr.grownBy w53 (some go19) := (by rw [hw]; exact HP52.2); have hp_ : Kd.R Kd.bool 4 w53 w.heap.size (fun _ => True) (.slice (some ⟨go19, 0, none⟩) x5_7.length co19) y165 := (by rw [hw, Ny165.out]; exact HP52.1); clear HP52; have n0_ := Aside0.mk (hp_); have n1_ := Aside0.mk (blk_grown (g := gb151) (o := .cells #[.int .i64 a0_0, .int .i64 a0_1, .slice (some ad161) l0_2.length c0_2] 24 (0, 0)) (pB BK151.out) hg (Kd.R_ne HO_5.out BK151.out (by decide))); have n2_ := Aside0.mk ((by rw [hw]; exact below_set (HB.out) GB19.out : Below w.heap.size w w53)); clear HO_5; clear BK151; clear HB; have HO_5 := n0_; have BK151 := n1_; have HB := n2_; clear n0_ n1_ n2_; clear hg hw hp_)))
                                 (try simp only [← hl5_7])
                                 go_roundg k7
                                 case measure => have := HK1.out; have := HK2.out; have := HK3.out; have := HK4.out; have := HJ24.out; have := HJ31.out; have := HK7.out; omega
                                 case rel => exact ⟨(y165), (true), (wrap64 (x11_7 + 1)), (by first | rfl | (simp; done) | (simp [*]; done)), (by first | rfl | (simp; done) | (simp [*]; done)), H', ⟨by have := HK1.out; have := HK2.out; have := HK3.out; have := HK4.out; have := HJ24.out; have := HJ31.out; have := HK7.out; omega⟩, ⟨by (try simp only [hl5_2]); (try simp only [hl5_3]); (try simp only [hl5_4]); (try simp only [hl5_7]); (with_reducible repeat (first | apply Kd.R_alloc | apply Kd.R_drewN | apply Kd.R_drew)); exact HO_5.out⟩, ⟨by (try simp only [hl5_2]); (try simp only [hl5_3]); (try simp only [hl5_4]); (try simp only [hl5_7]); (with_reducible repeat (first | refine blk_drewN ?_ _ | refine blk_drew ?_ | refine blk_alloc ?_ _)); exact BK151.out⟩, ⟨by repeat (first | (with_reducible first | exact HB.out | apply below_alloc | apply pw_below_drewN | apply below_drew1 | refine below_set ?_ GE151.out) | exact HB.out)⟩⟩
                                ·
                                 rw [if_neg c49] at H
                                 exact absurd H (by simp)
                               ·
                                rw [if_neg c48] at H
                                have c48b0 : ((rdOf ByteArray.empty ((rd_T37 l0_2 x9_3).f1.f3) x11_7).toList == ((rd_T37 l0_2 x10_4).f0).toList) = false := beq_eq_false_iff_ne.mpr c48
                                have c48b1 : ((rdOf ByteArray.empty ((rd_T37 l0_2 x9_3).f1.f3) x11_7).toList != ((rd_T37 l0_2 x10_4).f0).toList) = true := bne_iff_ne.mpr c48
                                have H' := Aside0.mk H
                                clear H
                                have hcz54_0 : wr.cell? ⟨gb151, 0, none⟩ = some (.int .i64 a0_0) := (blk_cell BK151.out 0).trans rfl
                                have hcz54_1 : wr.cell? ⟨gb151, 1, none⟩ = some (.int .i64 a0_1) := (blk_cell BK151.out 1).trans rfl
                                have hcz54_2 : wr.cell? ⟨gb151, 2, none⟩ = some (.slice A0_2 l0_2.length c0_2) := (blk_cell BK151.out 2).trans rfl
                                have hfz54_0 := blk_frozen BK151.out 0
                                have hfz54_1 := blk_frozen BK151.out 1
                                have hfz54_2 := blk_frozen BK151.out 2
                                have p161 : 0 ≤ (x9_3 : Int) := of_decide_eq_true (by first | (with_reducible assumption) | assumption)
                                have q161 : x9_3 < (l0_2.length : Int) := of_decide_eq_true (by first | (with_reducible assumption) | assumption)
                                obtain ⟨ad161, A161_3, c161_3, A161_4, c161_4, e161, hx161_0, hx161_1, hx161_2, hx161_3, hx161_4, hx161_5, hx161_6, hl161_3, hi161_3, hl161_4, hi161_4⟩ := at_T37 HR0_2.out x9_3 p161 q161
                                cases e161
                                replace hx161_0 := (HB.out.cell (World.block_lt_of_cell? w _ hx161_0)).trans hx161_0
                                replace hx161_1 := (HB.out.cell (World.block_lt_of_cell? w _ hx161_1)).trans hx161_1
                                replace hx161_2 := (HB.out.cell (World.block_lt_of_cell? w _ hx161_2)).trans hx161_2
                                replace hx161_3 := (HB.out.cell (World.block_lt_of_cell? w _ hx161_3)).trans hx161_3
                                replace hx161_4 := (HB.out.cell (World.block_lt_of_cell? w _ hx161_4)).trans hx161_4
                                replace hx161_5 := (HB.out.cell (World.block_lt_of_cell? w _ hx161_5)).trans hx161_5
                                replace hx161_6 := (HB.out.cell (World.block_lt_of_cell? w _ hx161_6)).trans hx161_6
                                have HR161_3 := Aside0.mk hi161_3
                                have HC161_3 := Aside0.mk hl161_3
                                clear hi161_3 hl161_3
                                have HR161_4 := Aside0.mk hi161_4
                                have HC161_4 := Aside0.mk hl161_4
                                clear hi161_4 hl161_4
                                replace p161 := eq_true p161
                                replace q161 := eq_true q161
                                have p162 : 0 ≤ (x9_3 : Int) := of_decide_eq_true (by first | (with_reducible assumption) | assumption)
                                have q162 : x9_3 < (l0_2.length : Int) := of_decide_eq_true (by first | (with_reducible assumption) | assumption)
                                obtain ⟨ad162, A162_3, c162_3, A162_4, c162_4, e162, hx162_0, hx162_1, hx162_2, hx162_3, hx162_4, hx162_5, hx162_6, hl162_3, hi162_3, hl162_4, hi162_4⟩ := at_T37 HR0_2.out x9_3 p162 q162
                                obtain rfl : ad161 = ad162 := (by injection e162)
                                replace hx162_0 := (HB.out.cell (World.block_lt_of_cell? w _ hx162_0)).trans hx162_0
                                replace hx162_1 := (HB.out.cell (World.block_lt_of_cell? w _ hx162_1)).trans hx162_1
                                replace hx162_2 := (HB.out.cell (World.block_lt_of_cell? w _ hx162_2)).trans hx162_2
                                replace hx162_3 := (HB.out.cell (World.block_lt_of_cell? w _ hx162_3)).trans hx162_3
                                replace hx162_4 := (HB.out.cell (World.block_lt_of_cell? w _ hx162_4)).trans hx162_4
                                replace hx162_5 := (HB.out.cell (World.block_lt_of_cell? w _ hx162_5)).trans hx162_5
                                replace hx162_6 := (HB.out.cell (World.block_lt_of_cell? w _ hx162_6)).trans hx162_6
                                have HR162_3 := Aside0.mk hi162_3
                                have HC162_3 := Aside0.mk hl162_3
                                clear hi162_3 hl162_3
                                have HR162_4 := Aside0.mk hi162_4
                                have HC162_4 := Aside0.mk hl162_4
                                clear hi162_4 hl162_4
                                replace p162 := eq_true p162
                                replace q162 := eq_true q162
                                have ea_ := Option.some.inj (hx161_3.symm.trans hx162_3)
                                injection ea_ with ea_ en_ ec_
                                subst ea_
                                subst ec_
                                clear en_
                                have ea_ := Option.some.inj (hx161_4.symm.trans hx162_4)
                                injection ea_ with ea_ en_ ec_
                                subst ea_
                                subst ec_
                                clear en_
                                have p163 : 0 ≤ (x11_7 : Int) := of_decide_eq_true (by first | (with_reducible assumption) | assumption)
                                have q163 : x11_7 < (((rd_T37 l0_2 x9_3).f1.f3).length : Int) := of_decide_eq_true (by first | (with_reducible assumption) | assumption)
                                obtain ⟨ad163, e163, hx163_0⟩ := Kd.at_string HR162_4.out x11_7 p163 q163
                                cases e163
                                replace hx163_0 := (HB.out.cell (World.block_lt_of_cell? w _ hx163_0)).trans hx163_0
                                replace p163 := eq_true p163
                                replace q163 := eq_true q163
                                have p164 : 0 ≤ (x10_4 : Int) := of_decide_eq_true (by first | (with_reducible assumption) | assumption)
                                have q164 : x10_4 < (l0_2.length : Int) := of_decide_eq_true (by first | (with_reducible assumption) | assumption)
                                obtain ⟨ad164, A164_3, c164_3, A164_4, c164_4, e164, hx164_0, hx164_1, hx164_2, hx164_3, hx164_4, hx164_5, hx164_6, hl164_3, hi164_3, hl164_4, hi164_4⟩ := at_T37 HR0_2.out x10_4 p164 q164
                                obtain rfl : ad161 = ad164 := (by injection e164)
                                replace hx164_0 := (HB.out.cell (World.block_lt_of_cell? w _ hx164_0)).trans hx164_0
                                replace hx164_1 := (HB.out.cell (World.block_lt_of_cell? w _ hx164_1)).trans hx164_1
                                replace hx164_2 := (HB.out.cell (World.block_lt_of_cell? w _ hx164_2)).trans hx164_2
                                replace hx164_3 := (HB.out.cell (World.block_lt_of_cell? w _ hx164_3)).trans hx164_3
                                replace hx164_4 := (HB.out.cell (World.block_lt_of_cell? w _ hx164_4)).trans hx164_4
                                replace hx164_5 := (HB.out.cell (World.block_lt_of_cell? w _ hx164_5)).trans hx164_5
                                replace hx164_6 := (HB.out.cell (World.block_lt_of_cell? w _ hx164_6)).trans hx164_6
                                have HR164_3 := Aside0.mk hi164_3
                                have HC164_3 := Aside0.mk hl164_3
                                clear hi164_3 hl164_3
                                have HR164_4 := Aside0.mk hi164_4
                                have HC164_4 := Aside0.mk hl164_4
                                clear hi164_4 hl164_4
                                replace p164 := eq_true p164
                                replace q164 := eq_true q164
                                go_wp2
                                repeat (go_quiet (fail); try go_wp2)
                                (try simp only [← hl5_7])
                                go_roundg k7
                                case measure => have := HK1.out; have := HK2.out; have := HK3.out; have := HK4.out; have := HJ24.out; have := HJ31.out; have := HK7.out; omega
                                case rel => exact ⟨(x5_7), (x8_7), (wrap64 (x11_7 + 1)), (by first | rfl | (simp; done) | (simp [*]; done)), (by first | rfl | (simp; done) | (simp [*]; done)), H', ⟨by have := HK1.out; have := HK2.out; have := HK3.out; have := HK4.out; have := HJ24.out; have := HJ31.out; have := HK7.out; omega⟩, ⟨by (try simp only [hl5_2]); (try simp only [hl5_3]); (try simp only [hl5_4]); (try simp only [hl5_7]); (with_reducible repeat (first | apply Kd.R_alloc | apply Kd.R_drewN | apply Kd.R_drew)); exact HO_5.out⟩, ⟨by (try simp only [hl5_2]); (try simp only [hl5_3]); (try simp only [hl5_4]); (try simp only [hl5_7]); (with_reducible repeat (first | refine blk_drewN ?_ _ | refine blk_drew ?_ | refine blk_alloc ?_ _)); exact BK151.out⟩, ⟨by repeat (first | (with_reducible first | exact HB.out | apply below_alloc | apply pw_below_drewN | apply below_drew1 | refine below_set ?_ GE151.out) | exact HB.out)⟩⟩
                              ·
                               rw [if_neg c47] at H
                               exact absurd H (by simp)
                             ·
                              rw [if_neg c46] at H
                              exact absurd H (by simp)
                            ·
                             rw [if_neg c45] at H
                             exact absurd H (by simp)
                           ·
                            rw [if_neg c44] at H
                            have c44b0 : decide (x11_7 < (((rd_T37 l0_2 x9_3).f1.f3).length : Int)) = false := decide_eq_false c44
                            clear c44
                            have H' := Aside0.mk H
                            clear H
                            have hcz55_0 : wr.cell? ⟨gb151, 0, none⟩ = some (.int .i64 a0_0) := (blk_cell BK151.out 0).trans rfl
                            have hcz55_1 : wr.cell? ⟨gb151, 1, none⟩ = some (.int .i64 a0_1) := (blk_cell BK151.out 1).trans rfl
                            have hcz55_2 : wr.cell? ⟨gb151, 2, none⟩ = some (.slice A0_2 l0_2.length c0_2) := (blk_cell BK151.out 2).trans rfl
                            have hfz55_0 := blk_frozen BK151.out 0
                            have hfz55_1 := blk_frozen BK151.out 1
                            have hfz55_2 := blk_frozen BK151.out 2
                            have p161 : 0 ≤ (x9_3 : Int) := of_decide_eq_true (by first | (with_reducible assumption) | assumption)
                            have q161 : x9_3 < (l0_2.length : Int) := of_decide_eq_true (by first | (with_reducible assumption) | assumption)
                            obtain ⟨ad161, A161_3, c161_3, A161_4, c161_4, e161, hx161_0, hx161_1, hx161_2, hx161_3, hx161_4, hx161_5, hx161_6, hl161_3, hi161_3, hl161_4, hi161_4⟩ := at_T37 HR0_2.out x9_3 p161 q161
                            cases e161
                            replace hx161_0 := (HB.out.cell (World.block_lt_of_cell? w _ hx161_0)).trans hx161_0
                            replace hx161_1 := (HB.out.cell (World.block_lt_of_cell? w _ hx161_1)).trans hx161_1
                            replace hx161_2 := (HB.out.cell (World.block_lt_of_cell? w _ hx161_2)).trans hx161_2
                            replace hx161_3 := (HB.out.cell (World.block_lt_of_cell? w _ hx161_3)).trans hx161_3
                            replace hx161_4 := (HB.out.cell (World.block_lt_of_cell? w _ hx161_4)).trans hx161_4
                            replace hx161_5 := (HB.out.cell (World.block_lt_of_cell? w _ hx161_5)).trans hx161_5
                            replace hx161_6 := (HB.out.cell (World.block_lt_of_cell? w _ hx161_6)).trans hx161_6
                            have HR161_3 := Aside0.mk hi161_3
                            have HC161_3 := Aside0.mk hl161_3
                            clear hi161_3 hl161_3
                            have HR161_4 := Aside0.mk hi161_4
                            have HC161_4 := Aside0.mk hl161_4
                            clear hi161_4 hl161_4
                            replace p161 := eq_true p161
                            replace q161 := eq_true q161
                            go_wp2
                            repeat (go_quiet (fail); try go_wp2)
                            (try simp only [← hl5_4, ← hl5_7])
                            go_roundg k7
                            case measure => have := HK1.out; have := HK2.out; have := HK3.out; have := HK4.out; have := HJ24.out; have := HJ31.out; have := HK7.out; omega
                            case rel => exact ⟨(x5_7), (x8_7), (wrap64 (x10_4 + 1)), (by first | rfl | (simp; done) | (simp [*]; done)), (by first | rfl | (simp; done) | (simp [*]; done)), H', ⟨by have := HK1.out; have := HK2.out; have := HK3.out; have := HK4.out; have := HJ24.out; have := HJ31.out; have := HK7.out; omega⟩, ⟨by (try simp only [hl5_2]); (try simp only [hl5_3]); (try simp only [hl5_4]); (try simp only [hl5_7]); (with_reducible repeat (first | apply Kd.R_alloc | apply Kd.R_drewN | apply Kd.R_drew)); exact HO_5.out⟩, ⟨by (try simp only [hl5_2]); (try simp only [hl5_3]); (try simp only [hl5_4]); (try simp only [hl5_7]); (with_reducible repeat (first | refine blk_drewN ?_ _ | refine blk_drew ?_ | refine blk_alloc ?_ _)); exact BK151.out⟩, ⟨by repeat (first | (with_reducible first | exact HB.out | apply below_alloc | apply pw_below_drewN | apply below_drew1 | refine below_set ?_ GE151.out) | exact HB.out)⟩⟩
                          ·
                           rw [if_neg c43] at H
                           exact absurd H (by simp)
                         ·
                          rw [if_neg c42] at H
                          exact absurd H (by simp)
                   ·
                    replace c31 := Bool.eq_false_iff.mpr c31
                    subst c31
                    have H1 : (selvedgeref11_reach.l2 kj24 x5_4 x8_4 (wrap64 (x9_3 + 1)) a0_0 a0_1 l0_2) = some r := by rw [if_neg (show ¬ (false = true) by decide)] at H; exact H
                    clear H
                    have H := H1
                    clear H1
                    have H' := Aside0.mk H
                    clear H
                    go_wp2
                    repeat (go_quiet (fail); try go_wp2)
                    (try simp only [← hl5_3, ← hl5_4])
                    go_roundg kj24
                    case measure => have := HK1.out; have := HK2.out; have := HK3.out; have := HK4.out; have := HJ24.out; omega
                    case rel => exact ⟨(x5_4), (x8_4), (wrap64 (x9_3 + 1)), (by first | rfl | (simp; done) | (simp [*]; done)), (by first | rfl | (simp; done) | (simp [*]; done)), H', ⟨by have := HK1.out; have := HK2.out; have := HK3.out; have := HK4.out; have := HJ24.out; omega⟩, ⟨by (try simp only [hl5_2]); (try simp only [hl5_3]); (try simp only [hl5_4]); (with_reducible repeat (first | apply Kd.R_alloc | apply Kd.R_drewN | apply Kd.R_drew)); exact HO_5.out⟩, ⟨by (try simp only [hl5_2]); (try simp only [hl5_3]); (try simp only [hl5_4]); (with_reducible repeat (first | refine blk_drewN ?_ _ | refine blk_drew ?_ | refine blk_alloc ?_ _)); exact BK151.out⟩, ⟨by repeat (first | (with_reducible first | exact HB.out | apply below_alloc | apply pw_below_drewN | apply below_drew1 | refine below_set ?_ GE151.out) | exact HB.out)⟩⟩
              ·
               rw [if_neg c23] at H
               have c23b0 : decide (x9_3 < (l0_2.length : Int)) = false := decide_eq_false c23
               clear c23
               have H' := Aside0.mk H
               clear H
               have hcz56_0 : wr.cell? ⟨gb151, 0, none⟩ = some (.int .i64 a0_0) := (blk_cell BK151.out 0).trans rfl
               have hcz56_1 : wr.cell? ⟨gb151, 1, none⟩ = some (.int .i64 a0_1) := (blk_cell BK151.out 1).trans rfl
               have hcz56_2 : wr.cell? ⟨gb151, 2, none⟩ = some (.slice A0_2 l0_2.length c0_2) := (blk_cell BK151.out 2).trans rfl
               have hfz56_0 := blk_frozen BK151.out 0
               have hfz56_1 := blk_frozen BK151.out 1
               have hfz56_2 := blk_frozen BK151.out 2
               go_wp2
               repeat (go_quiet (fail); try go_wp2)
               (try simp only [← hl5_2, ← hl5_3])
               go_roundg k3
               case measure => have := HK1.out; have := HK2.out; have := HK3.out; omega
               case rel => exact ⟨(x5_3), (x8_3), (by first | rfl | (simp; done) | (simp [*]; done)), H', ⟨by have := HK1.out; have := HK2.out; have := HK3.out; omega⟩, ⟨by (try simp only [hl5_2]); (try simp only [hl5_3]); (with_reducible repeat (first | apply Kd.R_alloc | apply Kd.R_drewN | apply Kd.R_drew)); exact HO_5.out⟩, ⟨by (try simp only [hl5_2]); (try simp only [hl5_3]); (with_reducible repeat (first | refine blk_drewN ?_ _ | refine blk_drew ?_ | refine blk_alloc ?_ _)); exact BK151.out⟩, ⟨by repeat (first | (with_reducible first | exact HB.out | apply below_alloc | apply pw_below_drewN | apply below_drew1 | refine below_set ?_ GE151.out) | exact HB.out)⟩⟩
           ·
            replace c22 := Bool.eq_false_iff.mpr c22
            subst c22
            have H1 : (some x5_2) = some r := by rw [if_neg (show ¬ (false = true) by decide)] at H; exact H
            clear H
            have H := H1
            clear H1
            obtain rfl := Option.some.inj H
            go_wp2
            repeat (go_quiet (fail); try go_wp2)
            go_ret
            exact ⟨_, by first | rfl | (simp [errW_none, errW_some] <;> rfl) | (simp [*, errW_none, errW_some] <;> rfl), by (with_reducible repeat (first | apply Kd.R_alloc | apply Kd.R_drewN | apply Kd.R_drew)); exact HO_5.out, by repeat (first | (with_reducible first | exact HB.out | apply below_alloc | apply pw_below_drewN | apply below_drew1 | refine below_set ?_ GE151.out) | exact HB.out)⟩
        ·
         rw [if_neg c18] at H
         exact absurd H (by simp)
       ·
        rw [if_neg c17] at H
        exact absurd H (by simp)
  ·
   rw [if_neg c4] at H
   exact absurd H (by simp)
 ·
  rw [if_neg c3] at H
  exact absurd H (by simp)

end Go.Proofs.Ytcbfnmabckjijaa.POrderBehind
