-- written by a program of this session (pp.py), out of the kit's print and this session's contracts
import Derived.Test.YtcbfnmabckjijaaPOrderMarksx0
import Derived.Test.YtcbfnmabckjijaaPOrderMarksx1
import Derived.Test.YtcbfnmabckjijaaPOrderMarksx2
import Derived.Test.YtcbfnmabckjijaaPOrderMarksx3
import Derived.Test.YtcbfnmabckjijaaPOrderMarksx4
import Derived.Test.YtcbfnmabckjijaaPOrderMarksx5
namespace Go.Proofs.Ytcbfnmabckjijaa.POrderMarks
open Go.RowKit Go.Proofs.YtcbfnmabckjijaaW.PrintWords Go.Proofs.YtcbfnmabckjijaaW.PrintLast Go.Proofs.YtcbfnmabckjijaaW.PrintMore
attribute [local go_sem] max2_int min2_int max_two min_two max_three min_three max_four min_four   -- for this text's walks alone
set_option linter.unusedVariables false
set_option linter.unusedSimpArgs false

/-! ### selvedgeref14_Right: function 24 -/
mutual
def selvedgeref14_Right.l0 : Nat → List (S54) → Int → Option (Bool)
  | 0, _, _ => none
  | k + 1, x0, x3 => if x3 < (x0.length : Int) then (if 0 ≤ x3 then (if ((rd_T54 x0 x3).f0) < 1 then (selvedgeref14_Right.j1 k x0 x3 true ((rd_T54 x0 x3).f0) ((rd_T54 x0 x3).f1) ((rd_T54 x0 x3).f2)) else (if ((rd_T54 x0 x3).f0) > 64 then (selvedgeref14_Right.j1 k x0 x3 true ((rd_T54 x0 x3).f0) ((rd_T54 x0 x3).f1) ((rd_T54 x0 x3).f2)) else (if ((rd_T54 x0 x3).f1) < 0 then (selvedgeref14_Right.j1 k x0 x3 true ((rd_T54 x0 x3).f0) ((rd_T54 x0 x3).f1) ((rd_T54 x0 x3).f2)) else (if x3 > 0 then (if 0 ≤ (wrap64 (x3 - 1)) then (if (wrap64 (x3 - 1)) < (x0.length : Int) then (selvedgeref14_Right.j1 k x0 x3 (decide (((rd_T54 x0 (wrap64 (x3 - 1))).f0) ≥ ((rd_T54 x0 x3).f0))) ((rd_T54 x0 x3).f0) ((rd_T54 x0 x3).f1) ((rd_T54 x0 x3).f2)) else (none)) else (none)) else (selvedgeref14_Right.j1 k x0 x3 false ((rd_T54 x0 x3).f0) ((rd_T54 x0 x3).f1) ((rd_T54 x0 x3).f2)))))) else (none)) else (some true)
def selvedgeref14_Right.j1 : Nat → List (S54) → Int → Bool → Int → Int → List Int → Option (Bool)
  | 0, _, _, _, _, _, _ => none
  | k + 1, x0, x3, x44, x210000, x210001, x210002 => if x44 = true then (some false) else (selvedgeref14_Right.l1 k x0 x3 0 x210000 x210001 x210002)
def selvedgeref14_Right.l1 : Nat → List (S54) → Int → Int → Int → Int → List Int → Option (Bool)
  | 0, _, _, _, _, _, _ => none
  | k + 1, x0, x3, x5, x210000, x210001, x210002 => if x5 < (x210002.length : Int) then (if 0 ≤ x5 then (if (wrap64 ((rd x210002 x5) - x210001)) < 2 then (some false) else (if (wrap64 ((rd x210002 x5) - x210001)) > 8 then (some false) else (if x5 > 0 then (if 0 ≤ (wrap64 (x5 - 1)) then (if (wrap64 (x5 - 1)) < (x210002.length : Int) then (if (rd x210002 (wrap64 (x5 - 1))) ≥ (rd x210002 x5) then (some false) else (selvedgeref14_Right.l1 k x0 x3 (wrap64 (x5 + 1)) x210000 x210001 x210002)) else (none)) else (none)) else (selvedgeref14_Right.l1 k x0 x3 (wrap64 (x5 + 1)) x210000 x210001 x210002)))) else (none)) else (selvedgeref14_Right.l0 k x0 (wrap64 (x3 + 1)))
end
def selvedgeref14_Right.f (k : Nat) (l0 : List (S54)) : Option (Bool) := selvedgeref14_Right.l0 k l0 0
theorem selvedgeref14_Right.mono_l : ∀ k, (∀ y0 y1, LeO (selvedgeref14_Right.l0 k y0 y1) (selvedgeref14_Right.l0 (k + 1) y0 y1)) ∧ (∀ y0 y1 y2 y3 y4 y5, LeO (selvedgeref14_Right.j1 k y0 y1 y2 y3 y4 y5) (selvedgeref14_Right.j1 (k + 1) y0 y1 y2 y3 y4 y5)) ∧ (∀ y0 y1 y2 y3 y4 y5, LeO (selvedgeref14_Right.l1 k y0 y1 y2 y3 y4 y5) (selvedgeref14_Right.l1 (k + 1) y0 y1 y2 y3 y4 y5))
  | 0 => ⟨fun _ _ r h => by simp [selvedgeref14_Right.l0] at h, fun _ _ _ _ _ _ r h => by simp [selvedgeref14_Right.j1] at h, fun _ _ _ _ _ _ r h => by simp [selvedgeref14_Right.l1] at h⟩
  | k + 1 => by
    obtain ⟨ih0, ih1, ih2⟩ := selvedgeref14_Right.mono_l k
    refine ⟨?_, ?_, ?_⟩
    · intro y0 y1
      unfold selvedgeref14_Right.l0
      repeat' first
      | (with_reducible exact ih0 _ _)
      | (with_reducible exact ih1 _ _ _ _ _ _)
      | (with_reducible exact ih2 _ _ _ _ _ _)
      | (with_reducible exact LeO.refl _)
      | (with_reducible exact LeO.none _)
      | (with_reducible refine LeO.ite ?_ ?_)
      | (with_reducible refine LeO.bind ?_ (fun _ => ?_))
      | exact ih0 _ _
      | exact ih1 _ _ _ _ _ _
      | exact ih2 _ _ _ _ _ _
      | exact LeO.none _
      | refine LeO.ite ?_ ?_
      | refine LeO.bind ?_ (fun _ => ?_)
    · intro y0 y1 y2 y3 y4 y5
      unfold selvedgeref14_Right.j1
      repeat' first
      | (with_reducible exact ih0 _ _)
      | (with_reducible exact ih1 _ _ _ _ _ _)
      | (with_reducible exact ih2 _ _ _ _ _ _)
      | (with_reducible exact LeO.refl _)
      | (with_reducible exact LeO.none _)
      | (with_reducible refine LeO.ite ?_ ?_)
      | (with_reducible refine LeO.bind ?_ (fun _ => ?_))
      | exact ih0 _ _
      | exact ih1 _ _ _ _ _ _
      | exact ih2 _ _ _ _ _ _
      | exact LeO.none _
      | refine LeO.ite ?_ ?_
      | refine LeO.bind ?_ (fun _ => ?_)
    · intro y0 y1 y2 y3 y4 y5
      unfold selvedgeref14_Right.l1
      repeat' first
      | (with_reducible exact ih0 _ _)
      | (with_reducible exact ih1 _ _ _ _ _ _)
      | (with_reducible exact ih2 _ _ _ _ _ _)
      | (with_reducible exact LeO.refl _)
      | (with_reducible exact LeO.none _)
      | (with_reducible refine LeO.ite ?_ ?_)
      | (with_reducible refine LeO.bind ?_ (fun _ => ?_))
      | exact ih0 _ _
      | exact ih1 _ _ _ _ _ _
      | exact ih2 _ _ _ _ _ _
      | exact LeO.none _
      | refine LeO.ite ?_ ?_
      | refine LeO.bind ?_ (fun _ => ?_)
theorem selvedgeref14_Right.mono : ∀ a0 k, LeO (selvedgeref14_Right.f k a0) (selvedgeref14_Right.f (k + 1) a0) := by
  intro a0 k
  obtain ⟨ih0, ih1, ih2⟩ := selvedgeref14_Right.mono_l k
  unfold selvedgeref14_Right.f
  repeat' first
      | (with_reducible exact ih0 _ _)
      | (with_reducible exact ih1 _ _ _ _ _ _)
      | (with_reducible exact ih2 _ _ _ _ _ _)
      | (with_reducible exact LeO.refl _)
      | (with_reducible exact LeO.none _)
      | (with_reducible refine LeO.ite ?_ ?_)
      | (with_reducible refine LeO.bind ?_ (fun _ => ?_))
      | exact ih0 _ _
      | exact ih1 _ _ _ _ _ _
      | exact ih2 _ _ _ _ _ _
      | exact LeO.none _
      | refine LeO.ite ?_ ?_
      | refine LeO.bind ?_ (fun _ => ?_)
set_option maxHeartbeats 8000000 in
set_option maxRecDepth 100000 in
theorem selvedgeref14_Right.calls (k : Nat) (A0 : Option Addr) (c0 : Nat) (l0 : List (S54)) (r : Bool) (w : World) (hr0 : Kd.C k54 w A0 l0.length l0) (hc0 : l0.length ≤ c0) (h : selvedgeref14_Right.f k l0 = some r) :
    Calls Try.prog 24 #[.slice A0 l0.length c0] w fun e w' => e = .returned (.bool r) ∧ Below w.heap.size w w' := by
  have hu54 := Try.underlying54
  have HR0 := Aside0.mk hr0
  have HC0 := Aside0.mk hc0
  clear hr0 hc0
  have HB := Aside0.mk (Below.refl w.heap.size w)
  have H : (selvedgeref14_Right.l0 k l0 0) = some r := h
  clear h
  have H' := Aside0.mk H
  clear H
  go_enter Try.func24, Try.ntmps24
  go_wp2
  repeat (go_quiet (fail); try go_wp2)
  go_loopg [3] k (fun kq v3 w' => ∃ (x3_1 : Int), v3 = .int .i64 x3_1 ∧ Aside0 (selvedgeref14_Right.l0 kq l0 x3_1 = some r) ∧ Aside0 (kq ≤ k) ∧ Aside0 (Below w.heap.size w w'))
  case atStart => exact ⟨(0), (by first | rfl | (simp; done) | (simp [*]; done)), H', ⟨Nat.le_refl _⟩, ⟨by repeat (first | (with_reducible first | exact HB.out | apply below_alloc | apply pw_below_drewN | apply below_drew1) | exact HB.out)⟩⟩
  case round =>
    clear H'
    obtain ⟨x3_1, rfl, HA, HK1, HB⟩ := hrel
    cases gk with
    | zero => exact absurd HA.out (by simp [selvedgeref14_Right.l0])
    | succ k1 =>
      have H := HA.out
      clear HA
      simp only [selvedgeref14_Right.l0] at H
      by_cases c2 : x3_1 < (l0.length : Int)
      · rw [if_pos c2] at H
        have c2b0 : decide (x3_1 < (l0.length : Int)) = true := decide_eq_true c2
        clear c2
        by_cases c3 : 0 ≤ x3_1
        · rw [if_pos c3] at H
          have c3b0 : decide (0 ≤ x3_1) = true := decide_eq_true c3
          clear c3
          have HC4 := Aside0.mk H
          clear H
          have p208 : 0 ≤ (x3_1 : Int) := of_decide_eq_true (by first | (with_reducible assumption) | assumption)
          have q208 : x3_1 < (l0.length : Int) := of_decide_eq_true (by first | (with_reducible assumption) | assumption)
          obtain ⟨ad208, A208_2, c208_2, e208, hx208_0, hx208_1, hx208_2, hl208_2, hi208_2⟩ := at_T54 HR0.out x3_1 p208 q208
          cases e208
          replace hx208_0 := (HB.out.cell (World.block_lt_of_cell? w _ hx208_0)).trans hx208_0
          replace hx208_1 := (HB.out.cell (World.block_lt_of_cell? w _ hx208_1)).trans hx208_1
          replace hx208_2 := (HB.out.cell (World.block_lt_of_cell? w _ hx208_2)).trans hx208_2
          have HR208_2 := Aside0.mk hi208_2
          have HC208_2 := Aside0.mk hl208_2
          clear hi208_2 hl208_2
          replace p208 := eq_true p208
          replace q208 := eq_true q208
          go_upto_region 5 with (first | ((with_reducible refine gate_dst (N := 4) rfl ?_); refine box_event ?hg (N := 4) ?hd (cs := #[.int .i64 0, .int .i64 0, .slice none 0 0]) (t := 54) ?hr ?_; (case hd => rfl); (case hg => rfl); (case hr => first | (go_simp; done) | (go_simp; rfl)); intro gb209 hg w5 hbox hb; have n0_ := Aside0.mk (below_step (by repeat (first | (with_reducible first | exact HB.out | apply below_alloc | apply pw_below_drewN | apply below_drew1) | exact HB.out)) hb); have n1_ := Aside0.mk (hbox); have n2_ := Aside0.mk ((by rw [hg]; exact (below_size (by repeat (first | (with_reducible first | exact HB.out | apply below_alloc | apply pw_below_drewN | apply below_drew1) | exact HB.out))) : w.heap.size ≤ gb209)); have n3_ := Aside0.mk ((by rw [hg]; exact (below_size (by repeat (first | (with_reducible first | exact HB.out | apply below_alloc | apply pw_below_drewN | apply below_drew1) | exact HB.out))) : w.heap.size ≤ gb209)); clear HB; have HB := n0_; have BK209 := n1_; have GW209 := n2_; have GE209 := n3_; clear n0_ n1_ n2_ n3_; clear hb hbox hg; have hcz6_0 : w5.cell? ⟨gb209, 0, none⟩ = some (.int .i64 0) := (blk_cell BK209.out 0).trans rfl; have hcz6_1 : w5.cell? ⟨gb209, 1, none⟩ = some (.int .i64 0) := (blk_cell BK209.out 1).trans rfl; have hcz6_2 : w5.cell? ⟨gb209, 2, none⟩ = some (.slice none 0 0) := (blk_cell BK209.out 2).trans rfl; have hfz6_0 := blk_frozen BK209.out 0; have hfz6_1 := blk_frozen BK209.out 1; have hfz6_2 := blk_frozen BK209.out 2))
          (try simp only [Act.put, List.setIfInBounds_toArray, List.set_cons_zero, List.set_cons_succ])
          repeat (go_quiet (first | ((with_reducible refine gate_dst (N := 4) rfl ?_); refine box_event ?hg (N := 4) ?hd (cs := #[.int .i64 0, .int .i64 0, .slice none 0 0]) (t := 54) ?hr ?_; (case hd => rfl); (case hg => rfl); (case hr => first | (go_simp; done) | (go_simp; rfl)); intro gb209 hg w5 hbox hb; have n0_ := Aside0.mk (below_step (by repeat (first | (with_reducible first | exact HB.out | apply below_alloc | apply pw_below_drewN | apply below_drew1) | exact HB.out)) hb); have n1_ := Aside0.mk (hbox); have n2_ := Aside0.mk ((by rw [hg]; exact (below_size (by repeat (first | (with_reducible first | exact HB.out | apply below_alloc | apply pw_below_drewN | apply below_drew1) | exact HB.out))) : w.heap.size ≤ gb209)); have n3_ := Aside0.mk ((by rw [hg]; exact (below_size (by repeat (first | (with_reducible first | exact HB.out | apply below_alloc | apply pw_below_drewN | apply below_drew1) | exact HB.out))) : w.heap.size ≤ gb209)); clear HB; have HB := n0_; have BK209 := n1_; have GW209 := n2_; have GE209 := n3_; clear n0_ n1_ n2_ n3_; clear hb hbox hg; have hcz6_0 : w5.cell? ⟨gb209, 0, none⟩ = some (.int .i64 0) := (blk_cell BK209.out 0).trans rfl; have hcz6_1 : w5.cell? ⟨gb209, 1, none⟩ = some (.int .i64 0) := (blk_cell BK209.out 1).trans rfl; have hcz6_2 : w5.cell? ⟨gb209, 2, none⟩ = some (.slice none 0 0) := (blk_cell BK209.out 2).trans rfl; have hfz6_0 := blk_frozen BK209.out 0; have hfz6_1 := blk_frozen BK209.out 1; have hfz6_2 := blk_frozen BK209.out 2)); go_upto_region 5 with (first | ((with_reducible refine gate_dst (N := 4) rfl ?_); refine box_event ?hg (N := 4) ?hd (cs := #[.int .i64 0, .int .i64 0, .slice none 0 0]) (t := 54) ?hr ?_; (case hd => rfl); (case hg => rfl); (case hr => first | (go_simp; done) | (go_simp; rfl)); intro gb209 hg w5 hbox hb; have n0_ := Aside0.mk (below_step (by repeat (first | (with_reducible first | exact HB.out | apply below_alloc | apply pw_below_drewN | apply below_drew1) | exact HB.out)) hb); have n1_ := Aside0.mk (hbox); have n2_ := Aside0.mk ((by rw [hg]; exact (below_size (by repeat (first | (with_reducible first | exact HB.out | apply below_alloc | apply pw_below_drewN | apply below_drew1) | exact HB.out))) : w.heap.size ≤ gb209)); have n3_ := Aside0.mk ((by rw [hg]; exact (below_size (by repeat (first | (with_reducible first | exact HB.out | apply below_alloc | apply pw_below_drewN | apply below_drew1) | exact HB.out))) : w.heap.size ≤ gb209)); clear HB; have HB := n0_; have BK209 := n1_; have GW209 := n2_; have GE209 := n3_; clear n0_ n1_ n2_ n3_; clear hb hbox hg; have hcz6_0 : w5.cell? ⟨gb209, 0, none⟩ = some (.int .i64 0) := (blk_cell BK209.out 0).trans rfl; have hcz6_1 : w5.cell? ⟨gb209, 1, none⟩ = some (.int .i64 0) := (blk_cell BK209.out 1).trans rfl; have hcz6_2 : w5.cell? ⟨gb209, 2, none⟩ = some (.slice none 0 0) := (blk_cell BK209.out 2).trans rfl; have hfz6_0 := blk_frozen BK209.out 0; have hfz6_1 := blk_frozen BK209.out 1; have hfz6_2 := blk_frozen BK209.out 2)))
          (try simp only [Act.put, List.setIfInBounds_toArray, List.set_cons_zero, List.set_cons_succ])
          go_cut [44] (fun v44 wc => ∃ (kq : Nat) (x44_3 : Bool), v44 = .bool x44_3 ∧ Aside0 (selvedgeref14_Right.j1 kq l0 x3_1 x44_3 ((rd_T54 l0 x3_1).f0) ((rd_T54 l0 x3_1).f1) ((rd_T54 l0 x3_1).f2) = some r) ∧ Aside0 (kq ≤ k1) ∧ Aside0 (wc.heap[gb209]? = some (.cells #[.int .i64 ((rd_T54 l0 x3_1).f0), .int .i64 ((rd_T54 l0 x3_1).f1), (.slice A208_2 ((rd_T54 l0 x3_1).f2).length c208_2)] 54 (0, 0))) ∧ Aside0 (Below w.heap.size w wc))
          case first =>
            have H := HC4.out
            clear HC4
            by_cases c7 : ((rd_T54 l0 x3_1).f0) < 1
            · rw [if_pos c7] at H
              have c7b0 : decide (((rd_T54 l0 x3_1).f0) < 1) = true := decide_eq_true c7
              clear c7
              (first | rw [c7b0] | (simp only [i64_w, i32_w]; rw [c7b0]) | skip)
              have H' := Aside0.mk H
              clear H
              have hcz8_0 : w5.cell? ⟨gb209, 0, none⟩ = some (.int .i64 0) := (blk_cell BK209.out 0).trans rfl
              have hcz8_1 : w5.cell? ⟨gb209, 1, none⟩ = some (.int .i64 0) := (blk_cell BK209.out 1).trans rfl
              have hcz8_2 : w5.cell? ⟨gb209, 2, none⟩ = some (.slice none 0 0) := (blk_cell BK209.out 2).trans rfl
              have hfz8_0 := blk_frozen BK209.out 0
              have hfz8_1 := blk_frozen BK209.out 1
              have hfz8_2 := blk_frozen BK209.out 2
              go_wp2
              repeat (go_quiet (fail); try go_wp2)
              go_meet
              case rel => exact ⟨_, (true), (by first | rfl | (simp; done) | (simp [*]; done)), H', ⟨by have := HK1.out; first | omega | exact Nat.le_refl _⟩, ⟨by (with_reducible repeat (first | refine blk_drewN ?_ _ | refine blk_drew ?_ | refine blk_alloc ?_ _)); refine blk_put (cs := #[.int .i64 ((rd_T54 l0 x3_1).f0), .int .i64 ((rd_T54 l0 x3_1).f1), .slice none 0 0]) ?_ 2 _ rfl; (with_reducible repeat (first | refine blk_drewN ?_ _ | refine blk_drew ?_ | refine blk_alloc ?_ _)); refine blk_put (cs := #[.int .i64 ((rd_T54 l0 x3_1).f0), .int .i64 0, .slice none 0 0]) ?_ 1 _ rfl; (with_reducible repeat (first | refine blk_drewN ?_ _ | refine blk_drew ?_ | refine blk_alloc ?_ _)); refine blk_put (cs := #[.int .i64 0, .int .i64 0, .slice none 0 0]) ?_ 0 _ rfl; (with_reducible repeat (first | refine blk_drewN ?_ _ | refine blk_drew ?_ | refine blk_alloc ?_ _)); exact BK209.out⟩, ⟨by repeat (first | (with_reducible first | exact HB.out | apply below_alloc | apply pw_below_drewN | apply below_drew1 | refine below_set ?_ GE209.out) | exact HB.out)⟩⟩
            · rw [if_neg c7] at H
              have c7b0 : decide (((rd_T54 l0 x3_1).f0) < 1) = false := decide_eq_false c7
              clear c7
              (first | rw [c7b0] | (simp only [i64_w, i32_w]; rw [c7b0]) | skip)
              by_cases c9 : ((rd_T54 l0 x3_1).f0) > 64
              · rw [if_pos c9] at H
                have c9b0 : decide (64 < ((rd_T54 l0 x3_1).f0)) = true := decide_eq_true c9
                clear c9
                have H' := Aside0.mk H
                clear H
                have hcz10_0 : w5.cell? ⟨gb209, 0, none⟩ = some (.int .i64 0) := (blk_cell BK209.out 0).trans rfl
                have hcz10_1 : w5.cell? ⟨gb209, 1, none⟩ = some (.int .i64 0) := (blk_cell BK209.out 1).trans rfl
                have hcz10_2 : w5.cell? ⟨gb209, 2, none⟩ = some (.slice none 0 0) := (blk_cell BK209.out 2).trans rfl
                have hfz10_0 := blk_frozen BK209.out 0
                have hfz10_1 := blk_frozen BK209.out 1
                have hfz10_2 := blk_frozen BK209.out 2
                go_wp2
                repeat (go_quiet (fail); try go_wp2)
                go_meet
                case rel => exact ⟨_, (true), (by first | rfl | (simp; done) | (simp [*]; done)), H', ⟨by have := HK1.out; first | omega | exact Nat.le_refl _⟩, ⟨by (with_reducible repeat (first | refine blk_drewN ?_ _ | refine blk_drew ?_ | refine blk_alloc ?_ _)); refine blk_put (cs := #[.int .i64 ((rd_T54 l0 x3_1).f0), .int .i64 ((rd_T54 l0 x3_1).f1), .slice none 0 0]) ?_ 2 _ rfl; (with_reducible repeat (first | refine blk_drewN ?_ _ | refine blk_drew ?_ | refine blk_alloc ?_ _)); refine blk_put (cs := #[.int .i64 ((rd_T54 l0 x3_1).f0), .int .i64 0, .slice none 0 0]) ?_ 1 _ rfl; (with_reducible repeat (first | refine blk_drewN ?_ _ | refine blk_drew ?_ | refine blk_alloc ?_ _)); refine blk_put (cs := #[.int .i64 0, .int .i64 0, .slice none 0 0]) ?_ 0 _ rfl; (with_reducible repeat (first | refine blk_drewN ?_ _ | refine blk_drew ?_ | refine blk_alloc ?_ _)); exact BK209.out⟩, ⟨by repeat (first | (with_reducible first | exact HB.out | apply below_alloc | apply pw_below_drewN | apply below_drew1 | refine below_set ?_ GE209.out) | exact HB.out)⟩⟩
              · rw [if_neg c9] at H
                have c9b0 : decide (64 < ((rd_T54 l0 x3_1).f0)) = false := decide_eq_false c9
                clear c9
                by_cases c11 : ((rd_T54 l0 x3_1).f1) < 0
                · rw [if_pos c11] at H
                  have c11b0 : decide (((rd_T54 l0 x3_1).f1) < 0) = true := decide_eq_true c11
                  clear c11
                  have H' := Aside0.mk H
                  clear H
                  have hcz12_0 : w5.cell? ⟨gb209, 0, none⟩ = some (.int .i64 0) := (blk_cell BK209.out 0).trans rfl
                  have hcz12_1 : w5.cell? ⟨gb209, 1, none⟩ = some (.int .i64 0) := (blk_cell BK209.out 1).trans rfl
                  have hcz12_2 : w5.cell? ⟨gb209, 2, none⟩ = some (.slice none 0 0) := (blk_cell BK209.out 2).trans rfl
                  have hfz12_0 := blk_frozen BK209.out 0
                  have hfz12_1 := blk_frozen BK209.out 1
                  have hfz12_2 := blk_frozen BK209.out 2
                  go_wp2
                  repeat (go_quiet (fail); try go_wp2)
                  go_meet
                  case rel => exact ⟨_, (true), (by first | rfl | (simp; done) | (simp [*]; done)), H', ⟨by have := HK1.out; first | omega | exact Nat.le_refl _⟩, ⟨by (with_reducible repeat (first | refine blk_drewN ?_ _ | refine blk_drew ?_ | refine blk_alloc ?_ _)); refine blk_put (cs := #[.int .i64 ((rd_T54 l0 x3_1).f0), .int .i64 ((rd_T54 l0 x3_1).f1), .slice none 0 0]) ?_ 2 _ rfl; (with_reducible repeat (first | refine blk_drewN ?_ _ | refine blk_drew ?_ | refine blk_alloc ?_ _)); refine blk_put (cs := #[.int .i64 ((rd_T54 l0 x3_1).f0), .int .i64 0, .slice none 0 0]) ?_ 1 _ rfl; (with_reducible repeat (first | refine blk_drewN ?_ _ | refine blk_drew ?_ | refine blk_alloc ?_ _)); refine blk_put (cs := #[.int .i64 0, .int .i64 0, .slice none 0 0]) ?_ 0 _ rfl; (with_reducible repeat (first | refine blk_drewN ?_ _ | refine blk_drew ?_ | refine blk_alloc ?_ _)); exact BK209.out⟩, ⟨by repeat (first | (with_reducible first | exact HB.out | apply below_alloc | apply pw_below_drewN | apply below_drew1 | refine below_set ?_ GE209.out) | exact HB.out)⟩⟩
                · rw [if_neg c11] at H
                  have c11b0 : decide (((rd_T54 l0 x3_1).f1) < 0) = false := decide_eq_false c11
                  clear c11
                  by_cases c13 : x3_1 > 0
                  · rw [if_pos c13] at H
                    have c13b0 : decide (0 < x3_1) = true := decide_eq_true c13
                    clear c13
                    obtain ⟨ji14, hji14⟩ : ∃ j_ : Int, (wrap64 (x3_1 - 1)) = j_ := ⟨_, rfl⟩
                    replace H : (if 0 ≤ (ji14) then (if (ji14) < (l0.length : Int) then (selvedgeref14_Right.j1 k1 l0 x3_1 (decide (((rd_T54 l0 (ji14)).f0) ≥ ((rd_T54 l0 x3_1).f0))) ((rd_T54 l0 x3_1).f0) ((rd_T54 l0 x3_1).f1) ((rd_T54 l0 x3_1).f2)) else (none)) else (none)) = some r := by first | (rw [hji14] at H; exact H) | (simp only [hji14] at H ⊢; exact H)
                    have hji14w : (IntKind.i64.wrap (x3_1 - 1)) = ji14 := (i64_w _).trans hji14
                    by_cases c15 : 0 ≤ (ji14)
                    · rw [if_pos c15] at H
                      have c15b0 : decide (0 ≤ (ji14)) = true := decide_eq_true c15
                      clear c15
                      by_cases c16 : (ji14) < (l0.length : Int)
                      · rw [if_pos c16] at H
                        have c16b0 : decide ((ji14) < (l0.length : Int)) = true := decide_eq_true c16
                        clear c16
                        have H' := Aside0.mk H
                        clear H
                        have hcz17_0 : w5.cell? ⟨gb209, 0, none⟩ = some (.int .i64 0) := (blk_cell BK209.out 0).trans rfl
                        have hcz17_1 : w5.cell? ⟨gb209, 1, none⟩ = some (.int .i64 0) := (blk_cell BK209.out 1).trans rfl
                        have hcz17_2 : w5.cell? ⟨gb209, 2, none⟩ = some (.slice none 0 0) := (blk_cell BK209.out 2).trans rfl
                        have hfz17_0 := blk_frozen BK209.out 0
                        have hfz17_1 := blk_frozen BK209.out 1
                        have hfz17_2 := blk_frozen BK209.out 2
                        have p210 : 0 ≤ ((ji14) : Int) := of_decide_eq_true (by first | (with_reducible assumption) | assumption)
                        have q210 : (ji14) < (l0.length : Int) := of_decide_eq_true (by first | (with_reducible assumption) | assumption)
                        obtain ⟨ad210, A210_2, c210_2, e210, hx210_0, hx210_1, hx210_2, hl210_2, hi210_2⟩ := at_T54 HR0.out (ji14) p210 q210
                        obtain rfl : ad208 = ad210 := (by injection e210)
                        have hn210_0 : ad208.block ≠ gb209 := Nat.ne_of_lt (Nat.lt_of_lt_of_le (by have := World.block_lt_of_cell? _ _ hx210_0; first | rwa [add_block] at this | exact this) GW209.out)
                        have hn210_1 : ad208.block ≠ gb209 := Nat.ne_of_lt (Nat.lt_of_lt_of_le (by have := World.block_lt_of_cell? _ _ hx210_0; first | rwa [add_block] at this | exact this) GW209.out)
                        have hn210_2 : ad208.block ≠ gb209 := Nat.ne_of_lt (Nat.lt_of_lt_of_le (by have := World.block_lt_of_cell? _ _ hx210_0; first | rwa [add_block] at this | exact this) GW209.out)
                        replace hx210_0 := (HB.out.cell (World.block_lt_of_cell? w _ hx210_0)).trans hx210_0
                        replace hx210_1 := (HB.out.cell (World.block_lt_of_cell? w _ hx210_1)).trans hx210_1
                        replace hx210_2 := (HB.out.cell (World.block_lt_of_cell? w _ hx210_2)).trans hx210_2
                        have HR210_2 := Aside0.mk hi210_2
                        have HC210_2 := Aside0.mk hl210_2
                        clear hi210_2 hl210_2
                        replace hx210_0 := (cell_far (p := ⟨gb209, 0, none⟩) (by first | (rw [add_block]; exact hn210_0) | (show (Addr.add _ _).block ≠ _; rw [add_block]; exact hn210_0) | exact hn210_0) (.int .i64 ((rd_T54 l0 x3_1).f0))).trans hx210_0
                        replace hx210_1 := (cell_far (p := ⟨gb209, 0, none⟩) (by first | (rw [add_block]; exact hn210_0) | (show (Addr.add _ _).block ≠ _; rw [add_block]; exact hn210_0) | exact hn210_0) (.int .i64 ((rd_T54 l0 x3_1).f0))).trans hx210_1
                        replace hx210_2 := (cell_far (p := ⟨gb209, 0, none⟩) (by first | (rw [add_block]; exact hn210_0) | (show (Addr.add _ _).block ≠ _; rw [add_block]; exact hn210_0) | exact hn210_0) (.int .i64 ((rd_T54 l0 x3_1).f0))).trans hx210_2
                        replace hx210_0 := (cell_far (p := ⟨gb209, 1, none⟩) (by first | (rw [add_block]; exact hn210_1) | (show (Addr.add _ _).block ≠ _; rw [add_block]; exact hn210_1) | exact hn210_1) (.int .i64 ((rd_T54 l0 x3_1).f1))).trans hx210_0
                        replace hx210_1 := (cell_far (p := ⟨gb209, 1, none⟩) (by first | (rw [add_block]; exact hn210_1) | (show (Addr.add _ _).block ≠ _; rw [add_block]; exact hn210_1) | exact hn210_1) (.int .i64 ((rd_T54 l0 x3_1).f1))).trans hx210_1
                        replace hx210_2 := (cell_far (p := ⟨gb209, 1, none⟩) (by first | (rw [add_block]; exact hn210_1) | (show (Addr.add _ _).block ≠ _; rw [add_block]; exact hn210_1) | exact hn210_1) (.int .i64 ((rd_T54 l0 x3_1).f1))).trans hx210_2
                        replace hx210_0 := (cell_far (p := ⟨gb209, 2, none⟩) (by first | (rw [add_block]; exact hn210_2) | (show (Addr.add _ _).block ≠ _; rw [add_block]; exact hn210_2) | exact hn210_2) (.slice A208_2 ((rd_T54 l0 x3_1).f2).length c208_2)).trans hx210_0
                        replace hx210_1 := (cell_far (p := ⟨gb209, 2, none⟩) (by first | (rw [add_block]; exact hn210_2) | (show (Addr.add _ _).block ≠ _; rw [add_block]; exact hn210_2) | exact hn210_2) (.slice A208_2 ((rd_T54 l0 x3_1).f2).length c208_2)).trans hx210_1
                        replace hx210_2 := (cell_far (p := ⟨gb209, 2, none⟩) (by first | (rw [add_block]; exact hn210_2) | (show (Addr.add _ _).block ≠ _; rw [add_block]; exact hn210_2) | exact hn210_2) (.slice A208_2 ((rd_T54 l0 x3_1).f2).length c208_2)).trans hx210_2
                        (try have hy210_0 := fun (n_ : Nat) => (show (((((w5.drewN n_).setCell ⟨gb209, 0, none⟩ (.int .i64 ((rd_T54 l0 x3_1).f0))).setCell ⟨gb209, 1, none⟩ (.int .i64 ((rd_T54 l0 x3_1).f1))).setCell ⟨gb209, 2, none⟩ (.slice A208_2 ((rd_T54 l0 x3_1).f2).length c208_2))).cell? _ = some _ from hx210_0))
                        (try have hy210_1 := fun (n_ : Nat) => (show (((((w5.drewN n_).setCell ⟨gb209, 0, none⟩ (.int .i64 ((rd_T54 l0 x3_1).f0))).setCell ⟨gb209, 1, none⟩ (.int .i64 ((rd_T54 l0 x3_1).f1))).setCell ⟨gb209, 2, none⟩ (.slice A208_2 ((rd_T54 l0 x3_1).f2).length c208_2))).cell? _ = some _ from hx210_1))
                        (try have hy210_2 := fun (n_ : Nat) => (show (((((w5.drewN n_).setCell ⟨gb209, 0, none⟩ (.int .i64 ((rd_T54 l0 x3_1).f0))).setCell ⟨gb209, 1, none⟩ (.int .i64 ((rd_T54 l0 x3_1).f1))).setCell ⟨gb209, 2, none⟩ (.slice A208_2 ((rd_T54 l0 x3_1).f2).length c208_2))).cell? _ = some _ from hx210_2))
                        clear hn210_0
                        clear hn210_1
                        clear hn210_2
                        replace p210 := eq_true p210
                        replace q210 := eq_true q210
                        go_wp2
                        repeat (go_quiet (fail); try go_wp2)
                        go_meet
                        case rel => exact ⟨_, (decide (((rd_T54 l0 (ji14)).f0) ≥ ((rd_T54 l0 x3_1).f0))), (by first | rfl | (simp; done) | (simp only [← hji14] <;> (first | rfl | simp)) | (simp [*]; done)), H', ⟨by have := HK1.out; first | omega | exact Nat.le_refl _⟩, ⟨by (with_reducible repeat (first | refine blk_drewN ?_ _ | refine blk_drew ?_ | refine blk_alloc ?_ _)); refine blk_put (cs := #[.int .i64 ((rd_T54 l0 x3_1).f0), .int .i64 ((rd_T54 l0 x3_1).f1), .slice none 0 0]) ?_ 2 _ rfl; (with_reducible repeat (first | refine blk_drewN ?_ _ | refine blk_drew ?_ | refine blk_alloc ?_ _)); refine blk_put (cs := #[.int .i64 ((rd_T54 l0 x3_1).f0), .int .i64 0, .slice none 0 0]) ?_ 1 _ rfl; (with_reducible repeat (first | refine blk_drewN ?_ _ | refine blk_drew ?_ | refine blk_alloc ?_ _)); refine blk_put (cs := #[.int .i64 0, .int .i64 0, .slice none 0 0]) ?_ 0 _ rfl; (with_reducible repeat (first | refine blk_drewN ?_ _ | refine blk_drew ?_ | refine blk_alloc ?_ _)); exact BK209.out⟩, ⟨by repeat (first | (with_reducible first | exact HB.out | apply below_alloc | apply pw_below_drewN | apply below_drew1 | refine below_set ?_ GE209.out) | exact HB.out)⟩⟩
                      · rw [if_neg c16] at H
                        exact absurd H (by simp)
                    · rw [if_neg c15] at H
                      exact absurd H (by simp)
                  · rw [if_neg c13] at H
                    have c13b0 : decide (0 < x3_1) = false := decide_eq_false c13
                    clear c13
                    have H' := Aside0.mk H
                    clear H
                    have hcz18_0 : w5.cell? ⟨gb209, 0, none⟩ = some (.int .i64 0) := (blk_cell BK209.out 0).trans rfl
                    have hcz18_1 : w5.cell? ⟨gb209, 1, none⟩ = some (.int .i64 0) := (blk_cell BK209.out 1).trans rfl
                    have hcz18_2 : w5.cell? ⟨gb209, 2, none⟩ = some (.slice none 0 0) := (blk_cell BK209.out 2).trans rfl
                    have hfz18_0 := blk_frozen BK209.out 0
                    have hfz18_1 := blk_frozen BK209.out 1
                    have hfz18_2 := blk_frozen BK209.out 2
                    go_wp2
                    repeat (go_quiet (fail); try go_wp2)
                    go_meet
                    case rel => exact ⟨_, (false), (by first | rfl | (simp; done) | (simp [*]; done)), H', ⟨by have := HK1.out; first | omega | exact Nat.le_refl _⟩, ⟨by (with_reducible repeat (first | refine blk_drewN ?_ _ | refine blk_drew ?_ | refine blk_alloc ?_ _)); refine blk_put (cs := #[.int .i64 ((rd_T54 l0 x3_1).f0), .int .i64 ((rd_T54 l0 x3_1).f1), .slice none 0 0]) ?_ 2 _ rfl; (with_reducible repeat (first | refine blk_drewN ?_ _ | refine blk_drew ?_ | refine blk_alloc ?_ _)); refine blk_put (cs := #[.int .i64 ((rd_T54 l0 x3_1).f0), .int .i64 0, .slice none 0 0]) ?_ 1 _ rfl; (with_reducible repeat (first | refine blk_drewN ?_ _ | refine blk_drew ?_ | refine blk_alloc ?_ _)); refine blk_put (cs := #[.int .i64 0, .int .i64 0, .slice none 0 0]) ?_ 0 _ rfl; (with_reducible repeat (first | refine blk_drewN ?_ _ | refine blk_drew ?_ | refine blk_alloc ?_ _)); exact BK209.out⟩, ⟨by repeat (first | (with_reducible first | exact HB.out | apply below_alloc | apply pw_below_drewN | apply below_drew1 | refine below_set ?_ GE209.out) | exact HB.out)⟩⟩
          case rest =>
            clear HC4
            try clear c1
            try clear c2
            try clear c2b0
            try clear p2
            try clear q2
            try clear hx2
            try clear c3
            try clear c3b0
            try clear p6
            try clear c7
            try clear c7b0
            try clear c9
            try clear c9b0
            try clear c11
            try clear c11b0
            try clear c13
            try clear c13b0
            try clear c15
            try clear c15b0
            try clear c16
            try clear c16b0
            try clear hcz10_0
            try clear hcz10_1
            try clear hcz10_2
            try clear hcz12_0
            try clear hcz12_1
            try clear hcz12_2
            try clear hcz17_0
            try clear hcz17_1
            try clear hcz17_2
            try clear hcz18_0
            try clear hcz18_1
            try clear hcz18_2
            try clear hcz6_0
            try clear hcz6_1
            try clear hcz6_2
            try clear hcz8_0
            try clear hcz8_1
            try clear hcz8_2
            try clear hfz10_0
            try clear hfz10_1
            try clear hfz10_2
            try clear hfz12_0
            try clear hfz12_1
            try clear hfz12_2
            try clear hfz17_0
            try clear hfz17_1
            try clear hfz17_2
            try clear hfz18_0
            try clear hfz18_1
            try clear hfz18_2
            try clear hfz6_0
            try clear hfz6_1
            try clear hfz6_2
            try clear hfz8_0
            try clear hfz8_1
            try clear hfz8_2
            try clear hx208_0
            try clear hx208_1
            try clear hx208_2
            try clear hx210_0
            try clear hx210_1
            try clear hx210_2
            try clear p208
            try clear p210
            try clear q208
            try clear q210
            obtain ⟨kq, x44_3, rfl, HA, HJ3, BK209, HB⟩ := hcut
            cases kq with
            | zero => exact absurd HA.out (by simp [selvedgeref14_Right.j1])
            | succ kj3 =>
              have H := HA.out
              clear HA
              simp only [selvedgeref14_Right.j1] at H
              by_cases c19 : x44_3 = true
              · subst c19
                have H1 : (some false) = some r := by rw [if_pos rfl] at H; exact H
                clear H
                have H := H1
                clear H1
                obtain rfl := Option.some.inj H
                go_wp2
                repeat (go_quiet (fail); try go_wp2)
                go_ret
                exact ⟨by first | rfl | (simp [errW_none, errW_some] <;> rfl) | (simp [*, errW_none, errW_some] <;> rfl), by repeat (first | (with_reducible first | exact HB.out | apply below_alloc | apply pw_below_drewN | apply below_drew1 | refine below_set ?_ GE209.out) | exact HB.out)⟩
              · replace c19 := Bool.eq_false_iff.mpr c19
                subst c19
                have H1 : (selvedgeref14_Right.l1 kj3 l0 x3_1 0 ((rd_T54 l0 x3_1).f0) ((rd_T54 l0 x3_1).f1) ((rd_T54 l0 x3_1).f2)) = some r := by rw [if_neg (show ¬ (false = true) by decide)] at H; exact H
                clear H
                have H := H1
                clear H1
                have H' := Aside0.mk H
                clear H
                go_wp2
                repeat (go_quiet (fail); try go_wp2)
                go_loopg [5] kj3 (fun kq v5 w' => ∃ (x5_3 : Int), v5 = .int .i64 x5_3 ∧ Aside0 (selvedgeref14_Right.l1 kq l0 x3_1 x5_3 ((rd_T54 l0 x3_1).f0) ((rd_T54 l0 x3_1).f1) ((rd_T54 l0 x3_1).f2) = some r) ∧ Aside0 (kq ≤ kj3) ∧ Aside0 (w'.heap[gb209]? = some (.cells #[.int .i64 ((rd_T54 l0 x3_1).f0), .int .i64 ((rd_T54 l0 x3_1).f1), (.slice A208_2 ((rd_T54 l0 x3_1).f2).length c208_2)] 54 (0, 0))) ∧ Aside0 (Below w.heap.size w w'))
                case atStart => exact ⟨(0), (by first | rfl | (simp; done) | (simp [*]; done)), H', ⟨Nat.le_refl _⟩, ⟨by (with_reducible repeat (first | refine blk_drewN ?_ _ | refine blk_drew ?_ | refine blk_alloc ?_ _)); exact BK209.out⟩, ⟨by repeat (first | (with_reducible first | exact HB.out | apply below_alloc | apply pw_below_drewN | apply below_drew1 | refine below_set ?_ GE209.out) | exact HB.out)⟩⟩
                case round =>
                  clear H'
                  try clear c1
                  try clear c2
                  try clear c2b0
                  try clear p2
                  try clear q2
                  try clear hx2
                  try clear c3
                  try clear c3b0
                  try clear p6
                  try clear c7
                  try clear c7b0
                  try clear c9
                  try clear c9b0
                  try clear c11
                  try clear c11b0
                  try clear c13
                  try clear c13b0
                  try clear c15
                  try clear c15b0
                  try clear c16
                  try clear c16b0
                  try clear c19
                  try clear hcz10_0
                  try clear hcz10_1
                  try clear hcz10_2
                  try clear hcz12_0
                  try clear hcz12_1
                  try clear hcz12_2
                  try clear hcz17_0
                  try clear hcz17_1
                  try clear hcz17_2
                  try clear hcz18_0
                  try clear hcz18_1
                  try clear hcz18_2
                  try clear hcz6_0
                  try clear hcz6_1
                  try clear hcz6_2
                  try clear hcz8_0
                  try clear hcz8_1
                  try clear hcz8_2
                  try clear hfz10_0
                  try clear hfz10_1
                  try clear hfz10_2
                  try clear hfz12_0
                  try clear hfz12_1
                  try clear hfz12_2
                  try clear hfz17_0
                  try clear hfz17_1
                  try clear hfz17_2
                  try clear hfz18_0
                  try clear hfz18_1
                  try clear hfz18_2
                  try clear hfz6_0
                  try clear hfz6_1
                  try clear hfz6_2
                  try clear hfz8_0
                  try clear hfz8_1
                  try clear hfz8_2
                  try clear hx208_0
                  try clear hx208_1
                  try clear hx208_2
                  try clear hx210_0
                  try clear hx210_1
                  try clear hx210_2
                  try clear p2
                  try clear p208
                  try clear p210
                  try clear p6
                  try clear q2
                  try clear q208
                  try clear q210
                  obtain ⟨x5_3, rfl, HA, HK3, BK209, HB⟩ := hrel
                  cases gk with
                  | zero => exact absurd HA.out (by simp [selvedgeref14_Right.l1])
                  | succ k3 =>
                    have H := HA.out
                    clear HA
                    simp only [selvedgeref14_Right.l1] at H
                    by_cases c20 : x5_3 < (((rd_T54 l0 x3_1).f2).length : Int)
                    · rw [if_pos c20] at H
                      have c20b0 : decide (x5_3 < (((rd_T54 l0 x3_1).f2).length : Int)) = true := decide_eq_true c20
                      clear c20
                      by_cases c21 : 0 ≤ x5_3
                      · rw [if_pos c21] at H
                        have c21b0 : decide (0 ≤ x5_3) = true := decide_eq_true c21
                        clear c21
                        by_cases c22 : (wrap64 ((rd ((rd_T54 l0 x3_1).f2) x5_3) - ((rd_T54 l0 x3_1).f1))) < 2
                        · rw [if_pos c22] at H
                          have c22b0 : decide ((wrap64 ((rd ((rd_T54 l0 x3_1).f2) x5_3) - ((rd_T54 l0 x3_1).f1))) < 2) = true := decide_eq_true c22
                          clear c22
                          obtain rfl := Option.some.inj H
                          have hcz23_0 : wr.cell? ⟨gb209, 0, none⟩ = some (.int .i64 ((rd_T54 l0 x3_1).f0)) := (blk_cell BK209.out 0).trans rfl
                          have hcz23_1 : wr.cell? ⟨gb209, 1, none⟩ = some (.int .i64 ((rd_T54 l0 x3_1).f1)) := (blk_cell BK209.out 1).trans rfl
                          have hcz23_2 : wr.cell? ⟨gb209, 2, none⟩ = some (.slice A208_2 ((rd_T54 l0 x3_1).f2).length c208_2) := (blk_cell BK209.out 2).trans rfl
                          have hfz23_0 := blk_frozen BK209.out 0
                          have hfz23_1 := blk_frozen BK209.out 1
                          have hfz23_2 := blk_frozen BK209.out 2
                          have p211 : 0 ≤ (x5_3 : Int) := of_decide_eq_true (by first | (with_reducible assumption) | assumption)
                          have q211 : x5_3 < (((rd_T54 l0 x3_1).f2).length : Int) := of_decide_eq_true (by first | (with_reducible assumption) | assumption)
                          obtain ⟨ad211, e211, hx211_0⟩ := Kd.at_int HR208_2.out x5_3 p211 q211
                          cases e211
                          replace hx211_0 := (HB.out.cell (World.block_lt_of_cell? w _ hx211_0)).trans hx211_0
                          replace p211 := eq_true p211
                          replace q211 := eq_true q211
                          go_wp2
                          repeat (go_quiet (fail); try go_wp2)
                          go_ret
                          exact ⟨by first | rfl | (simp [errW_none, errW_some] <;> rfl) | (simp [*, errW_none, errW_some] <;> rfl), by repeat (first | (with_reducible first | exact HB.out | apply below_alloc | apply pw_below_drewN | apply below_drew1 | refine below_set ?_ GE209.out) | exact HB.out)⟩
                        · rw [if_neg c22] at H
                          have c22b0 : decide ((wrap64 ((rd ((rd_T54 l0 x3_1).f2) x5_3) - ((rd_T54 l0 x3_1).f1))) < 2) = false := decide_eq_false c22
                          clear c22
                          by_cases c24 : (wrap64 ((rd ((rd_T54 l0 x3_1).f2) x5_3) - ((rd_T54 l0 x3_1).f1))) > 8
                          · rw [if_pos c24] at H
                            have c24b0 : decide (8 < (wrap64 ((rd ((rd_T54 l0 x3_1).f2) x5_3) - ((rd_T54 l0 x3_1).f1)))) = true := decide_eq_true c24
                            clear c24
                            obtain rfl := Option.some.inj H
                            have hcz25_0 : wr.cell? ⟨gb209, 0, none⟩ = some (.int .i64 ((rd_T54 l0 x3_1).f0)) := (blk_cell BK209.out 0).trans rfl
                            have hcz25_1 : wr.cell? ⟨gb209, 1, none⟩ = some (.int .i64 ((rd_T54 l0 x3_1).f1)) := (blk_cell BK209.out 1).trans rfl
                            have hcz25_2 : wr.cell? ⟨gb209, 2, none⟩ = some (.slice A208_2 ((rd_T54 l0 x3_1).f2).length c208_2) := (blk_cell BK209.out 2).trans rfl
                            have hfz25_0 := blk_frozen BK209.out 0
                            have hfz25_1 := blk_frozen BK209.out 1
                            have hfz25_2 := blk_frozen BK209.out 2
                            have p211 : 0 ≤ (x5_3 : Int) := of_decide_eq_true (by first | (with_reducible assumption) | assumption)
                            have q211 : x5_3 < (((rd_T54 l0 x3_1).f2).length : Int) := of_decide_eq_true (by first | (with_reducible assumption) | assumption)
                            obtain ⟨ad211, e211, hx211_0⟩ := Kd.at_int HR208_2.out x5_3 p211 q211
                            cases e211
                            replace hx211_0 := (HB.out.cell (World.block_lt_of_cell? w _ hx211_0)).trans hx211_0
                            replace p211 := eq_true p211
                            replace q211 := eq_true q211
                            go_wp2
                            repeat (go_quiet (fail); try go_wp2)
                            go_ret
                            exact ⟨by first | rfl | (simp [errW_none, errW_some] <;> rfl) | (simp [*, errW_none, errW_some] <;> rfl), by repeat (first | (with_reducible first | exact HB.out | apply below_alloc | apply pw_below_drewN | apply below_drew1 | refine below_set ?_ GE209.out) | exact HB.out)⟩
                          · rw [if_neg c24] at H
                            have c24b0 : decide (8 < (wrap64 ((rd ((rd_T54 l0 x3_1).f2) x5_3) - ((rd_T54 l0 x3_1).f1)))) = false := decide_eq_false c24
                            clear c24
                            by_cases c26 : x5_3 > 0
                            · rw [if_pos c26] at H
                              have c26b0 : decide (0 < x5_3) = true := decide_eq_true c26
                              clear c26
                              obtain ⟨ji27, hji27⟩ : ∃ j_ : Int, (wrap64 (x5_3 - 1)) = j_ := ⟨_, rfl⟩
                              replace H : (if 0 ≤ (ji27) then (if (ji27) < (((rd_T54 l0 x3_1).f2).length : Int) then (if (rd ((rd_T54 l0 x3_1).f2) (ji27)) ≥ (rd ((rd_T54 l0 x3_1).f2) x5_3) then (some false) else (selvedgeref14_Right.l1 k3 l0 x3_1 (wrap64 (x5_3 + 1)) ((rd_T54 l0 x3_1).f0) ((rd_T54 l0 x3_1).f1) ((rd_T54 l0 x3_1).f2))) else (none)) else (none)) = some r := by first | (rw [hji27] at H; exact H) | (simp only [hji27] at H ⊢; exact H)
                              have hji27w : (IntKind.i64.wrap (x5_3 - 1)) = ji27 := (i64_w _).trans hji27
                              by_cases c28 : 0 ≤ (ji27)
                              · rw [if_pos c28] at H
                                have c28b0 : decide (0 ≤ (ji27)) = true := decide_eq_true c28
                                clear c28
                                by_cases c29 : (ji27) < (((rd_T54 l0 x3_1).f2).length : Int)
                                · rw [if_pos c29] at H
                                  have c29b0 : decide ((ji27) < (((rd_T54 l0 x3_1).f2).length : Int)) = true := decide_eq_true c29
                                  clear c29
                                  by_cases c30 : (rd ((rd_T54 l0 x3_1).f2) (ji27)) ≥ (rd ((rd_T54 l0 x3_1).f2) x5_3)
                                  · rw [if_pos c30] at H
                                    have c30b0 : decide ((rd ((rd_T54 l0 x3_1).f2) x5_3) ≤ (rd ((rd_T54 l0 x3_1).f2) (ji27))) = true := decide_eq_true c30
                                    clear c30
                                    obtain rfl := Option.some.inj H
                                    have hcz31_0 : wr.cell? ⟨gb209, 0, none⟩ = some (.int .i64 ((rd_T54 l0 x3_1).f0)) := (blk_cell BK209.out 0).trans rfl
                                    have hcz31_1 : wr.cell? ⟨gb209, 1, none⟩ = some (.int .i64 ((rd_T54 l0 x3_1).f1)) := (blk_cell BK209.out 1).trans rfl
                                    have hcz31_2 : wr.cell? ⟨gb209, 2, none⟩ = some (.slice A208_2 ((rd_T54 l0 x3_1).f2).length c208_2) := (blk_cell BK209.out 2).trans rfl
                                    have hfz31_0 := blk_frozen BK209.out 0
                                    have hfz31_1 := blk_frozen BK209.out 1
                                    have hfz31_2 := blk_frozen BK209.out 2
                                    have p211 : 0 ≤ (x5_3 : Int) := of_decide_eq_true (by first | (with_reducible assumption) | assumption)
                                    have q211 : x5_3 < (((rd_T54 l0 x3_1).f2).length : Int) := of_decide_eq_true (by first | (with_reducible assumption) | assumption)
                                    obtain ⟨ad211, e211, hx211_0⟩ := Kd.at_int HR208_2.out x5_3 p211 q211
                                    cases e211
                                    replace hx211_0 := (HB.out.cell (World.block_lt_of_cell? w _ hx211_0)).trans hx211_0
                                    replace p211 := eq_true p211
                                    replace q211 := eq_true q211
                                    have p212 : 0 ≤ ((ji27) : Int) := of_decide_eq_true (by first | (with_reducible assumption) | assumption)
                                    have q212 : (ji27) < (((rd_T54 l0 x3_1).f2).length : Int) := of_decide_eq_true (by first | (with_reducible assumption) | assumption)
                                    obtain ⟨ad212, e212, hx212_0⟩ := Kd.at_int HR208_2.out (ji27) p212 q212
                                    obtain rfl : ad211 = ad212 := (by injection e212)
                                    replace hx212_0 := (HB.out.cell (World.block_lt_of_cell? w _ hx212_0)).trans hx212_0
                                    replace p212 := eq_true p212
                                    replace q212 := eq_true q212
                                    have p213 : 0 ≤ (x5_3 : Int) := of_decide_eq_true (by first | (with_reducible assumption) | assumption)
                                    have q213 : x5_3 < (((rd_T54 l0 x3_1).f2).length : Int) := of_decide_eq_true (by first | (with_reducible assumption) | assumption)
                                    obtain ⟨ad213, e213, hx213_0⟩ := Kd.at_int HR208_2.out x5_3 p213 q213
                                    obtain rfl : ad211 = ad213 := (by injection e213)
                                    replace hx213_0 := (HB.out.cell (World.block_lt_of_cell? w _ hx213_0)).trans hx213_0
                                    replace p213 := eq_true p213
                                    replace q213 := eq_true q213
                                    go_wp2
                                    repeat (go_quiet (fail); try go_wp2)
                                    go_ret
                                    exact ⟨by first | rfl | (simp [errW_none, errW_some] <;> rfl) | (simp only [← hji27]; first | rfl | (simp [errW_none, errW_some] <;> rfl)) | (simp [*, errW_none, errW_some] <;> rfl), by repeat (first | (with_reducible first | exact HB.out | apply below_alloc | apply pw_below_drewN | apply below_drew1 | refine below_set ?_ GE209.out) | exact HB.out)⟩
                                  · rw [if_neg c30] at H
                                    have c30b0 : decide ((rd ((rd_T54 l0 x3_1).f2) x5_3) ≤ (rd ((rd_T54 l0 x3_1).f2) (ji27))) = false := decide_eq_false c30
                                    clear c30
                                    have H' := Aside0.mk H
                                    clear H
                                    have hcz32_0 : wr.cell? ⟨gb209, 0, none⟩ = some (.int .i64 ((rd_T54 l0 x3_1).f0)) := (blk_cell BK209.out 0).trans rfl
                                    have hcz32_1 : wr.cell? ⟨gb209, 1, none⟩ = some (.int .i64 ((rd_T54 l0 x3_1).f1)) := (blk_cell BK209.out 1).trans rfl
                                    have hcz32_2 : wr.cell? ⟨gb209, 2, none⟩ = some (.slice A208_2 ((rd_T54 l0 x3_1).f2).length c208_2) := (blk_cell BK209.out 2).trans rfl
                                    have hfz32_0 := blk_frozen BK209.out 0
                                    have hfz32_1 := blk_frozen BK209.out 1
                                    have hfz32_2 := blk_frozen BK209.out 2
                                    have p211 : 0 ≤ (x5_3 : Int) := of_decide_eq_true (by first | (with_reducible assumption) | assumption)
                                    have q211 : x5_3 < (((rd_T54 l0 x3_1).f2).length : Int) := of_decide_eq_true (by first | (with_reducible assumption) | assumption)
                                    obtain ⟨ad211, e211, hx211_0⟩ := Kd.at_int HR208_2.out x5_3 p211 q211
                                    cases e211
                                    replace hx211_0 := (HB.out.cell (World.block_lt_of_cell? w _ hx211_0)).trans hx211_0
                                    replace p211 := eq_true p211
                                    replace q211 := eq_true q211
                                    have p212 : 0 ≤ ((ji27) : Int) := of_decide_eq_true (by first | (with_reducible assumption) | assumption)
                                    have q212 : (ji27) < (((rd_T54 l0 x3_1).f2).length : Int) := of_decide_eq_true (by first | (with_reducible assumption) | assumption)
                                    obtain ⟨ad212, e212, hx212_0⟩ := Kd.at_int HR208_2.out (ji27) p212 q212
                                    obtain rfl : ad211 = ad212 := (by injection e212)
                                    replace hx212_0 := (HB.out.cell (World.block_lt_of_cell? w _ hx212_0)).trans hx212_0
                                    replace p212 := eq_true p212
                                    replace q212 := eq_true q212
                                    have p213 : 0 ≤ (x5_3 : Int) := of_decide_eq_true (by first | (with_reducible assumption) | assumption)
                                    have q213 : x5_3 < (((rd_T54 l0 x3_1).f2).length : Int) := of_decide_eq_true (by first | (with_reducible assumption) | assumption)
                                    obtain ⟨ad213, e213, hx213_0⟩ := Kd.at_int HR208_2.out x5_3 p213 q213
                                    obtain rfl : ad211 = ad213 := (by injection e213)
                                    replace hx213_0 := (HB.out.cell (World.block_lt_of_cell? w _ hx213_0)).trans hx213_0
                                    replace p213 := eq_true p213
                                    replace q213 := eq_true q213
                                    go_wp2
                                    repeat (go_quiet (fail); try go_wp2)
                                    go_roundg k3
                                    case measure => have := HK1.out; have := HJ3.out; have := HK3.out; omega
                                    case rel => exact ⟨(wrap64 (x5_3 + 1)), (by first | rfl | (simp; done) | (simp [*]; done)), H', ⟨by have := HK1.out; have := HJ3.out; have := HK3.out; omega⟩, ⟨by (with_reducible repeat (first | refine blk_drewN ?_ _ | refine blk_drew ?_ | refine blk_alloc ?_ _)); exact BK209.out⟩, ⟨by repeat (first | (with_reducible first | exact HB.out | apply below_alloc | apply pw_below_drewN | apply below_drew1 | refine below_set ?_ GE209.out) | exact HB.out)⟩⟩
                                · rw [if_neg c29] at H
                                  exact absurd H (by simp)
                              · rw [if_neg c28] at H
                                exact absurd H (by simp)
                            · rw [if_neg c26] at H
                              have c26b0 : decide (0 < x5_3) = false := decide_eq_false c26
                              clear c26
                              have H' := Aside0.mk H
                              clear H
                              have hcz33_0 : wr.cell? ⟨gb209, 0, none⟩ = some (.int .i64 ((rd_T54 l0 x3_1).f0)) := (blk_cell BK209.out 0).trans rfl
                              have hcz33_1 : wr.cell? ⟨gb209, 1, none⟩ = some (.int .i64 ((rd_T54 l0 x3_1).f1)) := (blk_cell BK209.out 1).trans rfl
                              have hcz33_2 : wr.cell? ⟨gb209, 2, none⟩ = some (.slice A208_2 ((rd_T54 l0 x3_1).f2).length c208_2) := (blk_cell BK209.out 2).trans rfl
                              have hfz33_0 := blk_frozen BK209.out 0
                              have hfz33_1 := blk_frozen BK209.out 1
                              have hfz33_2 := blk_frozen BK209.out 2
                              have p211 : 0 ≤ (x5_3 : Int) := of_decide_eq_true (by first | (with_reducible assumption) | assumption)
                              have q211 : x5_3 < (((rd_T54 l0 x3_1).f2).length : Int) := of_decide_eq_true (by first | (with_reducible assumption) | assumption)
                              obtain ⟨ad211, e211, hx211_0⟩ := Kd.at_int HR208_2.out x5_3 p211 q211
                              cases e211
                              replace hx211_0 := (HB.out.cell (World.block_lt_of_cell? w _ hx211_0)).trans hx211_0
                              replace p211 := eq_true p211
                              replace q211 := eq_true q211
                              go_wp2
                              repeat (go_quiet (fail); try go_wp2)
                              go_roundg k3
                              case measure => have := HK1.out; have := HJ3.out; have := HK3.out; omega
                              case rel => exact ⟨(wrap64 (x5_3 + 1)), (by first | rfl | (simp; done) | (simp [*]; done)), H', ⟨by have := HK1.out; have := HJ3.out; have := HK3.out; omega⟩, ⟨by (with_reducible repeat (first | refine blk_drewN ?_ _ | refine blk_drew ?_ | refine blk_alloc ?_ _)); exact BK209.out⟩, ⟨by repeat (first | (with_reducible first | exact HB.out | apply below_alloc | apply pw_below_drewN | apply below_drew1 | refine below_set ?_ GE209.out) | exact HB.out)⟩⟩
                      · rw [if_neg c21] at H
                        exact absurd H (by simp)
                    · rw [if_neg c20] at H
                      have c20b0 : decide (x5_3 < (((rd_T54 l0 x3_1).f2).length : Int)) = false := decide_eq_false c20
                      clear c20
                      have H' := Aside0.mk H
                      clear H
                      have hcz34_0 : wr.cell? ⟨gb209, 0, none⟩ = some (.int .i64 ((rd_T54 l0 x3_1).f0)) := (blk_cell BK209.out 0).trans rfl
                      have hcz34_1 : wr.cell? ⟨gb209, 1, none⟩ = some (.int .i64 ((rd_T54 l0 x3_1).f1)) := (blk_cell BK209.out 1).trans rfl
                      have hcz34_2 : wr.cell? ⟨gb209, 2, none⟩ = some (.slice A208_2 ((rd_T54 l0 x3_1).f2).length c208_2) := (blk_cell BK209.out 2).trans rfl
                      have hfz34_0 := blk_frozen BK209.out 0
                      have hfz34_1 := blk_frozen BK209.out 1
                      have hfz34_2 := blk_frozen BK209.out 2
                      go_wp2
                      repeat (go_quiet (fail); try go_wp2)
                      go_roundg k3
                      case measure => have := HK1.out; have := HJ3.out; have := HK3.out; omega
                      case rel => exact ⟨(wrap64 (x3_1 + 1)), (by first | rfl | (simp; done) | (simp [*]; done)), H', ⟨by have := HK1.out; have := HJ3.out; have := HK3.out; omega⟩, ⟨by repeat (first | (with_reducible first | exact HB.out | apply below_alloc | apply pw_below_drewN | apply below_drew1 | refine below_set ?_ GE209.out) | exact HB.out)⟩⟩
        · rw [if_neg c3] at H
          exact absurd H (by simp)
      · rw [if_neg c2] at H
        have c2b0 : decide (x3_1 < (l0.length : Int)) = false := decide_eq_false c2
        clear c2
        obtain rfl := Option.some.inj H
        go_wp2
        repeat (go_quiet (fail); try go_wp2)
        go_ret
        exact ⟨by first | rfl | (simp [errW_none, errW_some] <;> rfl) | (simp [*, errW_none, errW_some] <;> rfl), by repeat (first | (with_reducible first | exact HB.out | apply below_alloc | apply pw_below_drewN | apply below_drew1) | exact HB.out)⟩

/-! ### selvedgelaw14_OrderMarks: function 4 -/
def selvedgelaw14_OrderMarks.j0 : Nat → List (S54) → Int → Int → Bool → Bool → Option (Bool)
  | 0, _, _, _, _, _ => none
  | k + 1, x0, x1, x2, x7, x19 => if x19 = true then (some x7) else ((order_Note.f x0 x1 x2).bind fun t216 => ((selvedgeref14_Note.f k x0 x1 x2).bind fun t219 => ((selvedgeref14_Same.f k t216 t219).bind fun t222 => (if t222 = true then ((order_Fresh.f x0 x1 x2).bind fun t223 => ((selvedgeref14_Fresh.f k x0 x1 x2).bind fun t224 => (if (t223 == t224) = true then ((order_Right.f k x0).bind fun t225 => ((selvedgeref14_Right.f k x0).bind fun t226 => (some (t225 == t226)))) else (some false)))) else (some false)))))
def selvedgelaw14_OrderMarks.f (k : Nat) (l0 : List (S54)) (a1 : Int) (a2 : Int) : Option (Bool) := (selvedgelaw14_shown.f k).bind fun t214 => ((selvedgelaw14_few.f k l0 a2).bind fun t215 => (if t214 = true then (selvedgelaw14_OrderMarks.j0 k l0 a1 a2 t214 (!t215)) else (selvedgelaw14_OrderMarks.j0 k l0 a1 a2 t214 true)))
theorem selvedgelaw14_OrderMarks.mono_l : ∀ k, (∀ y0 y1 y2 y3 y4, LeO (selvedgelaw14_OrderMarks.j0 k y0 y1 y2 y3 y4) (selvedgelaw14_OrderMarks.j0 (k + 1) y0 y1 y2 y3 y4))
  | 0 => fun _ _ _ _ _ r h => by simp [selvedgelaw14_OrderMarks.j0] at h
  | k + 1 => by
    have ih0 := selvedgelaw14_OrderMarks.mono_l k
    · intro y0 y1 y2 y3 y4
      unfold selvedgelaw14_OrderMarks.j0
      repeat' first
      | (with_reducible exact ih0 _ _ _ _ _)
      | (with_reducible exact order_Right.mono _ _)
      | (with_reducible exact selvedgelaw14_few.mono _ _ _)
      | (with_reducible exact selvedgelaw14_shown.mono _)
      | (with_reducible exact selvedgeref14_Fresh.mono _ _ _ _)
      | (with_reducible exact selvedgeref14_Note.mono _ _ _ _)
      | (with_reducible exact selvedgeref14_Right.mono _ _)
      | (with_reducible exact selvedgeref14_Same.mono _ _ _)
      | (with_reducible exact LeO.refl _)
      | (with_reducible exact LeO.none _)
      | (with_reducible refine LeO.ite ?_ ?_)
      | (with_reducible refine LeO.bind ?_ (fun _ => ?_))
      | exact ih0 _ _ _ _ _
      | exact order_Right.mono _ _
      | exact selvedgelaw14_few.mono _ _ _
      | exact selvedgelaw14_shown.mono _
      | exact selvedgeref14_Fresh.mono _ _ _ _
      | exact selvedgeref14_Note.mono _ _ _ _
      | exact selvedgeref14_Right.mono _ _
      | exact selvedgeref14_Same.mono _ _ _
      | exact LeO.none _
      | refine LeO.ite ?_ ?_
      | refine LeO.bind ?_ (fun _ => ?_)
theorem selvedgelaw14_OrderMarks.mono : ∀ a0 a1 a2 k, LeO (selvedgelaw14_OrderMarks.f k a0 a1 a2) (selvedgelaw14_OrderMarks.f (k + 1) a0 a1 a2) := by
  intro a0 a1 a2 k
  have ih0 := selvedgelaw14_OrderMarks.mono_l k
  unfold selvedgelaw14_OrderMarks.f
  repeat' first
      | (with_reducible exact ih0 _ _ _ _ _)
      | (with_reducible exact order_Right.mono _ _)
      | (with_reducible exact selvedgelaw14_few.mono _ _ _)
      | (with_reducible exact selvedgelaw14_shown.mono _)
      | (with_reducible exact selvedgeref14_Fresh.mono _ _ _ _)
      | (with_reducible exact selvedgeref14_Note.mono _ _ _ _)
      | (with_reducible exact selvedgeref14_Right.mono _ _)
      | (with_reducible exact selvedgeref14_Same.mono _ _ _)
      | (with_reducible exact LeO.refl _)
      | (with_reducible exact LeO.none _)
      | (with_reducible refine LeO.ite ?_ ?_)
      | (with_reducible refine LeO.bind ?_ (fun _ => ?_))
      | exact ih0 _ _ _ _ _
      | exact order_Right.mono _ _
      | exact selvedgelaw14_few.mono _ _ _
      | exact selvedgelaw14_shown.mono _
      | exact selvedgeref14_Fresh.mono _ _ _ _
      | exact selvedgeref14_Note.mono _ _ _ _
      | exact selvedgeref14_Right.mono _ _
      | exact selvedgeref14_Same.mono _ _ _
      | exact LeO.none _
      | refine LeO.ite ?_ ?_
      | refine LeO.bind ?_ (fun _ => ?_)
set_option maxHeartbeats 8000000 in
set_option maxRecDepth 100000 in
theorem selvedgelaw14_OrderMarks.calls (k : Nat) (A0 : Option Addr) (c0 : Nat) (l0 : List (S54)) (a1 : Int) (a2 : Int) (r : Bool) (hr_ : r = true) (w : World) (hr0 : Kd.C k54 w A0 l0.length l0) (hc0 : l0.length ≤ c0) (h : selvedgelaw14_OrderMarks.f k l0 a1 a2 = some r) :
    Calls Try.prog 4 #[.slice A0 l0.length c0, .int .i64 a1, .int .i64 a2] w fun e w' => e = .returned (.bool r) ∧ Below w.heap.size w w' := by
  have HRT_ := Aside0.mk hr_
  clear hr_
  have HR0 := Aside0.mk hr0
  have HC0 := Aside0.mk hc0
  clear hr0 hc0
  have HB := Aside0.mk (Below.refl w.heap.size w)
  have H : ((selvedgelaw14_shown.f k).bind fun t214 => ((selvedgelaw14_few.f k l0 a2).bind fun t215 => (if t214 = true then (selvedgelaw14_OrderMarks.j0 k l0 a1 a2 t214 (!t215)) else (selvedgelaw14_OrderMarks.j0 k l0 a1 a2 t214 true)))) = some r := h
  clear h
  replace H := Option.bind_eq_some_iff.mp H
  obtain ⟨t214, A40, H⟩ := H
  replace H : ((selvedgelaw14_few.f k l0 a2).bind fun t215 => (if t214 = true then (selvedgelaw14_OrderMarks.j0 k l0 a1 a2 t214 (!t215)) else (selvedgelaw14_OrderMarks.j0 k l0 a1 a2 t214 true))) = some r := H
  have A4 := Aside0.mk A40
  clear A40
  replace H := Option.bind_eq_some_iff.mp H
  obtain ⟨t215, A50, H⟩ := H
  replace H : (if t214 = true then (selvedgelaw14_OrderMarks.j0 k l0 a1 a2 t214 (!t215)) else (selvedgelaw14_OrderMarks.j0 k l0 a1 a2 t214 true)) = some r := H
  have A5 := Aside0.mk A50
  clear A50
  have HC6 := Aside0.mk H
  clear H
  go_enter Try.func4, Try.ntmps4
  go_upto_region 3 with (first | ((with_reducible refine gate_callee (f := 16) rfl ?_); refine goesL_ (some 10) rfl rfl Try.func16 (by kernel_rfl) rfl #[] rfl (by (try simp only [List.map_toArray, List.map_cons, List.map_nil]); first | done | rfl | (simp only [List.length_drop, List.length_take]; rfl)) ?_; (with_reducible refine (selvedgelaw14_shown.calls k  t214 _ A4.out).mono ?_); rintro e w7 ⟨rfl, hb⟩; refine ⟨_, rfl, ?_⟩; have n0_ := Aside0.mk (below_step (by repeat (first | (with_reducible first | exact HB.out | apply below_alloc | apply pw_below_drewN | apply below_drew1) | exact HB.out)) hb); clear HB; have HB := n0_; clear n0_; (try clear hb); (try clear hb2); (try clear hk); (try clear hi)) | ((with_reducible refine gate_callee (f := 17) rfl ?_); refine goesL_ (some 13) rfl rfl Try.func17 (by kernel_rfl) rfl #[.slice A0 l0.length c0, .int .i64 a2] rfl (by (try simp only [List.map_toArray, List.map_cons, List.map_nil]); first | done | rfl | (simp only [List.length_drop, List.length_take]; rfl)) ?_; (with_reducible refine (selvedgelaw14_few.calls k _ _ l0 a2 t215 _ ?side1 ?side2 A5.out).mono ?_); (case side1 => repeat (first | exact (Kd.C_below HR0.out HB.out) | (with_reducible refine Kd.C_alloc ?_ _) | (with_reducible refine Kd.C_drewN ?_ _) | (with_reducible refine Kd.C_drew ?_))); (case side2 => exact HC0.out); rintro e w' ⟨rfl, ⟨nd, rfl⟩⟩; refine ⟨_, rfl, ?_⟩))
  (try simp only [Act.put, List.setIfInBounds_toArray, List.set_cons_zero, List.set_cons_succ])
  go_cut [19] (fun v19 wc => ∃ (kq : Nat) (x19_5 : Bool), v19 = .bool x19_5 ∧ Aside0 (selvedgelaw14_OrderMarks.j0 kq l0 a1 a2 t214 x19_5 = some r) ∧ Aside0 (kq ≤ k) ∧ Aside0 (Below w.heap.size w wc))
  case first =>
    have H := HC6.out
    clear HC6
    by_cases c8 : t214 = true
    · subst c8
      have H1 : (selvedgelaw14_OrderMarks.j0 k l0 a1 a2 true (!t215)) = some r := by rw [if_pos rfl] at H; exact H
      clear H
      have H := H1
      clear H1
      have H' := Aside0.mk H
      clear H
      go_wp2
      go_meet
      case rel => exact ⟨_, (!t215), (by first | rfl | (simp; done) | (simp [*]; done)), H', ⟨by first | omega | exact Nat.le_refl _⟩, ⟨by repeat (first | (with_reducible first | exact HB.out | apply below_alloc | apply pw_below_drewN | apply below_drew1) | exact HB.out)⟩⟩
    · replace c8 := Bool.eq_false_iff.mpr c8
      subst c8
      have H1 : (selvedgelaw14_OrderMarks.j0 k l0 a1 a2 false true) = some r := by rw [if_neg (show ¬ (false = true) by decide)] at H; exact H
      clear H
      have H := H1
      clear H1
      have H' := Aside0.mk H
      clear H
      go_wp2
      go_meet
      case rel => exact ⟨_, (true), (by first | rfl | (simp; done) | (simp [*]; done)), H', ⟨by first | omega | exact Nat.le_refl _⟩, ⟨by repeat (first | (with_reducible first | exact HB.out | apply below_alloc | apply pw_below_drewN | apply below_drew1) | exact HB.out)⟩⟩
  case rest =>
    clear HC6
    try clear c1
    try clear p2
    try clear c4
    try clear c8
    obtain ⟨kq, x19_5, rfl, HA, HJ5, HB⟩ := hcut
    cases kq with
    | zero => exact absurd HA.out (by simp [selvedgelaw14_OrderMarks.j0])
    | succ kj5 =>
      have H := HA.out
      clear HA
      simp only [selvedgelaw14_OrderMarks.j0] at H
      by_cases c9 : x19_5 = true
      · subst c9
        have H1 : (some t214) = some r := by rw [if_pos rfl] at H; exact H
        clear H
        have H := H1
        clear H1
        obtain rfl := Option.some.inj H
        go_wp2
        go_ret
        exact ⟨by first | rfl | (simp [errW_none, errW_some] <;> rfl) | (simp [*, errW_none, errW_some] <;> rfl), by repeat (first | (with_reducible first | exact HB.out | apply below_alloc | apply pw_below_drewN | apply below_drew1) | exact HB.out)⟩
      · replace c9 := Bool.eq_false_iff.mpr c9
        subst c9
        have H1 : ((order_Note.f l0 a1 a2).bind fun t216 => ((selvedgeref14_Note.f kj5 l0 a1 a2).bind fun t219 => ((selvedgeref14_Same.f kj5 t216 t219).bind fun t222 => (if t222 = true then ((order_Fresh.f l0 a1 a2).bind fun t223 => ((selvedgeref14_Fresh.f kj5 l0 a1 a2).bind fun t224 => (if (t223 == t224) = true then ((order_Right.f kj5 l0).bind fun t225 => ((selvedgeref14_Right.f kj5 l0).bind fun t226 => (some (t225 == t226)))) else (some false)))) else (some false))))) = some r := by rw [if_neg (show ¬ (false = true) by decide)] at H; exact H
        clear H
        have H := H1
        clear H1
        replace H := Option.bind_eq_some_iff.mp H
        obtain ⟨t216, A100, H⟩ := H
        replace H : ((selvedgeref14_Note.f kj5 l0 a1 a2).bind fun t219 => ((selvedgeref14_Same.f kj5 t216 t219).bind fun t222 => (if t222 = true then ((order_Fresh.f l0 a1 a2).bind fun t223 => ((selvedgeref14_Fresh.f kj5 l0 a1 a2).bind fun t224 => (if (t223 == t224) = true then ((order_Right.f kj5 l0).bind fun t225 => ((selvedgeref14_Right.f kj5 l0).bind fun t226 => (some (t225 == t226)))) else (some false)))) else (some false)))) = some r := H
        have A10 := Aside0.mk A100
        clear A100
        replace H := Option.bind_eq_some_iff.mp H
        obtain ⟨t219, A110, H⟩ := H
        replace H : ((selvedgeref14_Same.f kj5 t216 t219).bind fun t222 => (if t222 = true then ((order_Fresh.f l0 a1 a2).bind fun t223 => ((selvedgeref14_Fresh.f kj5 l0 a1 a2).bind fun t224 => (if (t223 == t224) = true then ((order_Right.f kj5 l0).bind fun t225 => ((selvedgeref14_Right.f kj5 l0).bind fun t226 => (some (t225 == t226)))) else (some false)))) else (some false))) = some r := H
        have A11 := Aside0.mk A110
        clear A110
        replace H := Option.bind_eq_some_iff.mp H
        obtain ⟨t222, A120, H⟩ := H
        replace H : (if t222 = true then ((order_Fresh.f l0 a1 a2).bind fun t223 => ((selvedgeref14_Fresh.f kj5 l0 a1 a2).bind fun t224 => (if (t223 == t224) = true then ((order_Right.f kj5 l0).bind fun t225 => ((selvedgeref14_Right.f kj5 l0).bind fun t226 => (some (t225 == t226)))) else (some false)))) else (some false)) = some r := H
        have A12 := Aside0.mk A120
        clear A120
        by_cases c13 : t222 = true
        · subst c13
          have H1 : ((order_Fresh.f l0 a1 a2).bind fun t223 => ((selvedgeref14_Fresh.f kj5 l0 a1 a2).bind fun t224 => (if (t223 == t224) = true then ((order_Right.f kj5 l0).bind fun t225 => ((selvedgeref14_Right.f kj5 l0).bind fun t226 => (some (t225 == t226)))) else (some false)))) = some r := by rw [if_pos rfl] at H; exact H
          clear H
          have H := H1
          clear H1
          replace H := Option.bind_eq_some_iff.mp H
          obtain ⟨t223, A140, H⟩ := H
          replace H : ((selvedgeref14_Fresh.f kj5 l0 a1 a2).bind fun t224 => (if (t223 == t224) = true then ((order_Right.f kj5 l0).bind fun t225 => ((selvedgeref14_Right.f kj5 l0).bind fun t226 => (some (t225 == t226)))) else (some false))) = some r := H
          have A14 := Aside0.mk A140
          clear A140
          replace H := Option.bind_eq_some_iff.mp H
          obtain ⟨t224, A150, H⟩ := H
          replace H : (if (t223 == t224) = true then ((order_Right.f kj5 l0).bind fun t225 => ((selvedgeref14_Right.f kj5 l0).bind fun t226 => (some (t225 == t226)))) else (some false)) = some r := H
          have A15 := Aside0.mk A150
          clear A150
          by_cases c16 : (t223 == t224) = true
          · rw [if_pos c16] at H
            have c16b0 : (t223 == t224) = true := c16
            (try (have c16b1 : decide (t223 = t224) = true := by simpa using c16))
            (try (have c16b2 : (t223 == t224) = true := by simpa using c16))
            clear c16
            replace H := Option.bind_eq_some_iff.mp H
            obtain ⟨t225, A170, H⟩ := H
            replace H : ((selvedgeref14_Right.f kj5 l0).bind fun t226 => (some (t225 == t226))) = some r := H
            have A17 := Aside0.mk A170
            clear A170
            replace H := Option.bind_eq_some_iff.mp H
            obtain ⟨t226, A180, H⟩ := H
            replace H : (some (t225 == t226)) = some r := H
            have A18 := Aside0.mk A180
            clear A180
            obtain rfl := Option.some.inj H
            go_wp2_with (first | ((with_reducible refine gate_callee (f := 19) rfl ?_); refine goesL_ (some 24) rfl rfl Try.func19 (by kernel_rfl) rfl #[.slice A0 l0.length c0, .int .i64 a1, .int .i64 a2] rfl (by (try simp only [List.map_toArray, List.map_cons, List.map_nil]); first | done | rfl | (simp only [List.length_drop, List.length_take]; rfl)) ?_; (with_reducible refine (order_Note.calls (fun k_ => k_ < w.heap.size) _ _ l0 a1 a2 t216 _ ?side1 A10.out).mono ?_); (case side1 => exact Kd.V_mk HC0.out (Kd.F_below (Kd.C_F k54_heap HR0.out) (by repeat (first | (with_reducible first | exact HB.out | apply below_alloc | apply pw_below_drewN | apply below_drew1) | exact HB.out)))); rintro e w19 ⟨v217, rfl, ho0, hb⟩; refine ⟨_, rfl, ?_⟩; have n0_ := Aside0.mk (Kd.V_lower (Kd.V_mono (ok' := fun k_ => True) ho0 (fun k_ hk_ => trivial)) (below_size (by repeat (first | (with_reducible first | exact HB.out | apply below_alloc | apply pw_below_drewN | apply below_drew1) | exact HB.out)))); have n1_ := Aside0.mk (below_step (by repeat (first | (with_reducible first | exact HB.out | apply below_alloc | apply pw_below_drewN | apply below_drew1) | exact HB.out)) hb); clear HB; have HO218 := n0_; have HB := n1_; clear n0_ n1_; (try clear hb); (try clear hb2); (try clear hk); (try clear hi); (try clear ho0)) | ((with_reducible refine gate_callee (f := 20) rfl ?_); refine goesL_ (some 28) rfl rfl Try.func20 (by kernel_rfl) rfl #[.slice A0 l0.length c0, .int .i64 a1, .int .i64 a2] rfl (by (try simp only [List.map_toArray, List.map_cons, List.map_nil]); first | done | rfl | (simp only [List.length_drop, List.length_take]; rfl)) ?_; (with_reducible refine (selvedgeref14_Note.calls kj5 (fun k_ => k_ < w.heap.size) _ _ l0 a1 a2 t219 _ ?side1 A11.out).mono ?_); (case side1 => exact Kd.V_mk HC0.out (Kd.F_below (Kd.C_F k54_heap HR0.out) (by repeat (first | (with_reducible first | exact HB.out | apply below_alloc | apply pw_below_drewN | apply below_drew1) | exact HB.out)))); rintro e w20 ⟨v220, rfl, ho0, hb⟩; refine ⟨_, rfl, ?_⟩; have n0_ := Aside0.mk (Kd.V_below (by (with_reducible repeat (first | apply Kd.V_alloc | apply Kd.V_drewN | apply Kd.V_drew)); exact HO218.out) hb); have n1_ := Aside0.mk (Kd.V_lower (Kd.V_mono (ok' := fun k_ => True) ho0 (fun k_ hk_ => trivial)) (below_size (by repeat (first | (with_reducible first | exact HB.out | apply below_alloc | apply pw_below_drewN | apply below_drew1) | exact HB.out)))); have n2_ := Aside0.mk (below_step (by repeat (first | (with_reducible first | exact HB.out | apply below_alloc | apply pw_below_drewN | apply below_drew1) | exact HB.out)) hb); clear HO218; clear HB; have HO218 := n0_; have HO221 := n1_; have HB := n2_; clear n0_ n1_ n2_; (try clear hb); (try clear hb2); (try clear hk); (try clear hi); (try clear ho0); obtain ⟨Ao21, co21, eo21⟩ := Kd.V_slice HO218.out; subst eo21; obtain ⟨Ao22, co22, eo22⟩ := Kd.V_slice HO221.out; subst eo22) | ((with_reducible refine gate_callee (f := 18) rfl ?_); refine goesL_ (some 29) rfl rfl Try.func18 (by kernel_rfl) rfl #[.slice Ao21 t216.length co21, .slice Ao22 t219.length co22] rfl (by (try simp only [List.map_toArray, List.map_cons, List.map_nil]); first | done | rfl | (simp only [List.length_drop, List.length_take]; rfl)) ?_; (with_reducible refine (selvedgeref14_Same.calls kj5 _ _ t216 _ _ t219 true _ ?side1 ?side2 ?side3 ?side4 A12.out).mono ?_); (case side1 => repeat (first | exact (Kd.V_reads' HO218.out).2.2 | (with_reducible refine Kd.C_alloc ?_ _) | (with_reducible refine Kd.C_drewN ?_ _) | (with_reducible refine Kd.C_drew ?_))); (case side2 => exact (Kd.V_reads' HO218.out).2.1); (case side3 => repeat (first | exact (Kd.V_reads' HO221.out).2.2 | (with_reducible refine Kd.C_alloc ?_ _) | (with_reducible refine Kd.C_drewN ?_ _) | (with_reducible refine Kd.C_drew ?_))); (case side4 => exact (Kd.V_reads' HO221.out).2.1); rintro e w' ⟨rfl, ⟨nd, rfl⟩⟩; refine ⟨_, rfl, ?_⟩) | (go_at_call 21; (with_reducible refine (order_Fresh.calls _ _ l0 a1 a2 t223 _ ?side1 ?side2 A14.out).mono ?_); (case side1 => repeat (first | exact (Kd.C_below HR0.out (by repeat (first | (with_reducible first | exact HB.out | apply below_alloc | apply pw_below_drewN | apply below_drew1) | exact HB.out))) | (with_reducible refine Kd.C_alloc ?_ _) | (with_reducible refine Kd.C_drewN ?_ _) | (with_reducible refine Kd.C_drew ?_))); (case side2 => exact HC0.out); rintro e w23 ⟨rfl, hb⟩; have n0_ := Aside0.mk (Kd.V_below (by (with_reducible repeat (first | apply Kd.V_alloc | apply Kd.V_drewN | apply Kd.V_drew)); exact HO218.out) hb); have n1_ := Aside0.mk (Kd.V_below (by (with_reducible repeat (first | apply Kd.V_alloc | apply Kd.V_drewN | apply Kd.V_drew)); exact HO221.out) hb); have n2_ := Aside0.mk (below_step (by repeat (first | (with_reducible first | exact HB.out | apply below_alloc | apply pw_below_drewN | apply below_drew1) | exact HB.out)) hb); clear HO218; clear HO221; clear HB; have HO218 := n0_; have HO221 := n1_; have HB := n2_; clear n0_ n1_ n2_; (try clear hb); (try clear hb2); (try clear hk); (try clear hi)) | (go_at_call 22; (with_reducible refine (selvedgeref14_Fresh.calls kj5 _ _ l0 a1 a2 t224 _ ?side1 ?side2 A15.out).mono ?_); (case side1 => repeat (first | exact (Kd.C_below HR0.out HB.out) | (with_reducible refine Kd.C_alloc ?_ _) | (with_reducible refine Kd.C_drewN ?_ _) | (with_reducible refine Kd.C_drew ?_))); (case side2 => exact HC0.out); rintro e w24 ⟨rfl, hb⟩; have n0_ := Aside0.mk (Kd.V_below (by (with_reducible repeat (first | apply Kd.V_alloc | apply Kd.V_drewN | apply Kd.V_drew)); exact HO218.out) hb); have n1_ := Aside0.mk (Kd.V_below (by (with_reducible repeat (first | apply Kd.V_alloc | apply Kd.V_drewN | apply Kd.V_drew)); exact HO221.out) hb); have n2_ := Aside0.mk (below_step (by repeat (first | (with_reducible first | exact HB.out | apply below_alloc | apply pw_below_drewN | apply below_drew1) | exact HB.out)) hb); clear HO218; clear HO221; clear HB; have HO218 := n0_; have HO221 := n1_; have HB := n2_; clear n0_ n1_ n2_; (try clear hb); (try clear hb2); (try clear hk); (try clear hi)) | (go_at_call 23; (with_reducible refine (order_Right.calls kj5 _ _ l0 t225 _ ?side1 ?side2 A17.out).mono ?_); (case side1 => repeat (first | exact (Kd.C_below HR0.out HB.out) | (with_reducible refine Kd.C_alloc ?_ _) | (with_reducible refine Kd.C_drewN ?_ _) | (with_reducible refine Kd.C_drew ?_))); (case side2 => exact HC0.out); rintro e w25 ⟨rfl, hb⟩; have n0_ := Aside0.mk (Kd.V_below (by (with_reducible repeat (first | apply Kd.V_alloc | apply Kd.V_drewN | apply Kd.V_drew)); exact HO218.out) hb); have n1_ := Aside0.mk (Kd.V_below (by (with_reducible repeat (first | apply Kd.V_alloc | apply Kd.V_drewN | apply Kd.V_drew)); exact HO221.out) hb); have n2_ := Aside0.mk (below_step (by repeat (first | (with_reducible first | exact HB.out | apply below_alloc | apply pw_below_drewN | apply below_drew1) | exact HB.out)) hb); clear HO218; clear HO221; clear HB; have HO218 := n0_; have HO221 := n1_; have HB := n2_; clear n0_ n1_ n2_; (try clear hb); (try clear hb2); (try clear hk); (try clear hi)) | (go_at_call 24; (with_reducible refine (selvedgeref14_Right.calls kj5 _ _ l0 t226 _ ?side1 ?side2 A18.out).mono ?_); (case side1 => repeat (first | exact (Kd.C_below HR0.out HB.out) | (with_reducible refine Kd.C_alloc ?_ _) | (with_reducible refine Kd.C_drewN ?_ _) | (with_reducible refine Kd.C_drew ?_))); (case side2 => exact HC0.out); rintro e w26 ⟨rfl, hb⟩; have n0_ := Aside0.mk (Kd.V_below (by (with_reducible repeat (first | apply Kd.V_alloc | apply Kd.V_drewN | apply Kd.V_drew)); exact HO218.out) hb); have n1_ := Aside0.mk (Kd.V_below (by (with_reducible repeat (first | apply Kd.V_alloc | apply Kd.V_drewN | apply Kd.V_drew)); exact HO221.out) hb); have n2_ := Aside0.mk (below_step (by repeat (first | (with_reducible first | exact HB.out | apply below_alloc | apply pw_below_drewN | apply below_drew1) | exact HB.out)) hb); clear HO218; clear HO221; clear HB; have HO218 := n0_; have HO221 := n1_; have HB := n2_; clear n0_ n1_ n2_; (try clear hb); (try clear hb2); (try clear hk); (try clear hi)))
            go_ret
            exact ⟨by first | rfl | (simp [errW_none, errW_some] <;> rfl) | (simp [*, errW_none, errW_some] <;> rfl), by repeat (first | (with_reducible first | exact HB.out | apply below_alloc | apply pw_below_drewN | apply below_drew1) | exact HB.out)⟩
          · rw [if_neg c16] at H
            exact absurd ((Option.some.inj H).trans HRT_.out) (by decide)
        · replace c13 := Bool.eq_false_iff.mpr c13
          subst c13
          have H1 : (some false) = some r := by rw [if_neg (show ¬ (false = true) by decide)] at H; exact H
          exact absurd ((Option.some.inj H1).trans HRT_.out) (by decide)

end Go.Proofs.Ytcbfnmabckjijaa.POrderMarks
