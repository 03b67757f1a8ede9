-- written by a program of this session (pp.py), out of the kit's print and this session's contracts
import Derived.Test.YtdppmkcahfjceaaPCoinOnex0
import Derived.Test.YtdppmkcahfjceaaPCoinOnex2
import Derived.Test.YtdppmkcahfjceaaPCoinOnex3
import Derived.Test.YtdppmkcahfjceaaPCoinOnex4
import Derived.Test.YtdppmkcahfjceaaPCoinOnex5
namespace Go.Proofs.Ytdppmkcahfjceaa.PCoinOne
open Go.RowKit Go.Proofs.YtdppmkcahfjceaaW.PrintWords Go.Proofs.YtdppmkcahfjceaaW.PrintLast Go.Proofs.YtdppmkcahfjceaaW.PrintMore
attribute [local go_sem] max2_int min2_int max_two min_two max_three min_three max_four min_four   -- for this text's walks alone
set_option linter.unusedVariables false
set_option linter.unusedSimpArgs false

/-! ### selvedgelaw12_CoinOne: function 9 -/
mutual
def selvedgelaw12_CoinOne.j0 : Nat → ByteArray → Int → Int → Int → Bool → Bool → Option (Bool)
  | 0, _, _, _, _, _, _ => none
  | k + 1, x3, x4, x5, x6, x7, x33 => if x33 = true then (some x7) else ((selvedgeref05_List.f k x6).bind fun t198 => (selvedgelaw12_CoinOne.l0 k x3 x4 x5 t198 0 x4 0 ([] : List (S59))))
def selvedgelaw12_CoinOne.l0 : Nat → ByteArray → Int → Int → List Int → Int → Int → Int → List (S59) → Option (Bool)
  | 0, _, _, _, _, _, _, _, _ => none
  | k + 1, x3, x4, x5, x9, x10, x198000, x198001, x198002 => if x10 < (x9.length : Int) then (if 0 ≤ x10 then ((coin_Own.f x3 x5 x4 (rd x9 x10)).bind fun bt203 => ((coin_Fits.f x3 x4 (rd x9 x10) (wrap64 (3 * x5)) ([] : List (S193)) ([] : List ByteArray) bt203.1 bt203.2).bind fun t206 => (if t206 = true then (if x198002.length < 1466015503701 then (selvedgelaw12_CoinOne.l0 k x3 x4 x5 x9 (wrap64 (x10 + 1)) x198000 x198001 (x198002 ++ [(⟨(⟨#[]⟩ : ByteArray), (⟨rd x9 x10, wrap64 (3 * x5), ([] : List (S193)), ([] : List ByteArray), (⟨bt203.1, bt203.2⟩ : S23)⟩ : S38)⟩ : S59)])) else (none)) else (some false)))) else (none)) else ((coin_Reveal.f k x198000 x198001 x198002 x5).bind fun bt210 => ((selvedgeref05_May.f x4).bind fun t212 => (if t212 = true then ((selvedgeref05_Weak.f x4).bind fun t213 => (if (x9.length : Int) < t213 then (some (bt210.2 == 12)) else ((selvedgeref12_Deal.f k x3 x5 x4).bind fun t214 => (if bt210.2 = 0 then (if 0 < (t214.length : Int) then ((selvedgeref12_Leader.f ((rd_T23 t214 0).f0) ((rd_T23 t214 0).f1) x4).bind fun t218 => (if bt210.1 = t218 then (if bt210.1 ≥ 1 then (some (decide (bt210.1 ≤ x4))) else (some false)) else (some false))) else (none)) else (some false))))) else (some (bt210.2 == 1)))))
end
def selvedgelaw12_CoinOne.f (k : Nat) (a0_0 : ByteArray) (a0_1 : Int) (a0_2 : Int) (a0_3 : Int) : Option (Bool) := (selvedgelaw12_shown.f).bind fun t196 => (if t196 = true then (if a0_2 < 1 then (selvedgelaw12_CoinOne.j0 k a0_0 a0_1 a0_2 a0_3 t196 true) else (selvedgelaw12_CoinOne.j0 k a0_0 a0_1 a0_2 a0_3 t196 (decide (a0_2 > 1000)))) else (selvedgelaw12_CoinOne.j0 k a0_0 a0_1 a0_2 a0_3 t196 true))
theorem selvedgelaw12_CoinOne.mono_l : ∀ k, (∀ y0 y1 y2 y3 y4 y5, LeO (selvedgelaw12_CoinOne.j0 k y0 y1 y2 y3 y4 y5) (selvedgelaw12_CoinOne.j0 (k + 1) y0 y1 y2 y3 y4 y5)) ∧ (∀ y0 y1 y2 y3 y4 y5 y6 y7, LeO (selvedgelaw12_CoinOne.l0 k y0 y1 y2 y3 y4 y5 y6 y7) (selvedgelaw12_CoinOne.l0 (k + 1) y0 y1 y2 y3 y4 y5 y6 y7))
  | 0 => ⟨fun _ _ _ _ _ _ r h => by simp [selvedgelaw12_CoinOne.j0] at h, fun _ _ _ _ _ _ _ _ r h => by simp [selvedgelaw12_CoinOne.l0] at h⟩
  | k + 1 => by
    obtain ⟨ih0, ih1⟩ := selvedgelaw12_CoinOne.mono_l k
    refine ⟨?_, ?_⟩
    · intro y0 y1 y2 y3 y4 y5
      unfold selvedgelaw12_CoinOne.j0
      repeat' first
      | (with_reducible exact ih0 _ _ _ _ _ _)
      | (with_reducible exact ih1 _ _ _ _ _ _ _ _)
      | (with_reducible exact coin_Reveal.mono _ _ _ _ _)
      | (with_reducible exact selvedgeref05_List.mono _ _)
      | (with_reducible exact selvedgeref12_Deal.mono _ _ _ _)
      | (with_reducible exact LeO.refl _)
      | (with_reducible exact LeO.none _)
      | (with_reducible refine LeO.ite ?_ ?_)
      | (with_reducible refine LeO.bind ?_ (fun _ => ?_))
      | exact ih0 _ _ _ _ _ _
      | exact ih1 _ _ _ _ _ _ _ _
      | exact coin_Reveal.mono _ _ _ _ _
      | exact selvedgeref05_List.mono _ _
      | exact selvedgeref12_Deal.mono _ _ _ _
      | exact LeO.none _
      | refine LeO.ite ?_ ?_
      | refine LeO.bind ?_ (fun _ => ?_)
    · intro y0 y1 y2 y3 y4 y5 y6 y7
      unfold selvedgelaw12_CoinOne.l0
      repeat' first
      | (with_reducible exact ih0 _ _ _ _ _ _)
      | (with_reducible exact ih1 _ _ _ _ _ _ _ _)
      | (with_reducible exact coin_Reveal.mono _ _ _ _ _)
      | (with_reducible exact selvedgeref05_List.mono _ _)
      | (with_reducible exact selvedgeref12_Deal.mono _ _ _ _)
      | (with_reducible exact LeO.refl _)
      | (with_reducible exact LeO.none _)
      | (with_reducible refine LeO.ite ?_ ?_)
      | (with_reducible refine LeO.bind ?_ (fun _ => ?_))
      | exact ih0 _ _ _ _ _ _
      | exact ih1 _ _ _ _ _ _ _ _
      | exact coin_Reveal.mono _ _ _ _ _
      | exact selvedgeref05_List.mono _ _
      | exact selvedgeref12_Deal.mono _ _ _ _
      | exact LeO.none _
      | refine LeO.ite ?_ ?_
      | refine LeO.bind ?_ (fun _ => ?_)
theorem selvedgelaw12_CoinOne.mono : ∀ a0 a1 a2 a3 k, LeO (selvedgelaw12_CoinOne.f k a0 a1 a2 a3) (selvedgelaw12_CoinOne.f (k + 1) a0 a1 a2 a3) := by
  intro a0 a1 a2 a3 k
  obtain ⟨ih0, ih1⟩ := selvedgelaw12_CoinOne.mono_l k
  unfold selvedgelaw12_CoinOne.f
  repeat' first
      | (with_reducible exact ih0 _ _ _ _ _ _)
      | (with_reducible exact ih1 _ _ _ _ _ _ _ _)
      | (with_reducible exact coin_Reveal.mono _ _ _ _ _)
      | (with_reducible exact selvedgeref05_List.mono _ _)
      | (with_reducible exact selvedgeref12_Deal.mono _ _ _ _)
      | (with_reducible exact LeO.refl _)
      | (with_reducible exact LeO.none _)
      | (with_reducible refine LeO.ite ?_ ?_)
      | (with_reducible refine LeO.bind ?_ (fun _ => ?_))
      | exact ih0 _ _ _ _ _ _
      | exact ih1 _ _ _ _ _ _ _ _
      | exact coin_Reveal.mono _ _ _ _ _
      | exact selvedgeref05_List.mono _ _
      | exact selvedgeref12_Deal.mono _ _ _ _
      | exact LeO.none _
      | refine LeO.ite ?_ ?_
      | refine LeO.bind ?_ (fun _ => ?_)
def selvedgelaw12_CoinOne.T13 : Bool × List (List Nat × List Nat) := (true, [([], []), ([], []), ([0, 1], [0, 1]), ([2], [2]), ([], []), ([4], [4]), ([], []), ([], []), ([], []), ([], []), ([], []), ([9, 10], [9, 10]), ([11], [11]), ([6, 7, 8, 12], [6, 7, 8, 12]), ([3, 5, 13], [3, 5, 13]), ([], []), ([15, 14, 13, 0, 1, 2, 3, 4, 5, 6, 7, 8, 9, 10, 11, 12, 13, 14, 15], [14, 15])])
def selvedgelaw12_CoinOne.B13 : List Nat := [0, 0, 3, 7, 0, 16, 0, 0, 0, 0, 0, 1536, 3584, 8128, 16383, 0, 65535]
theorem selvedgelaw12_CoinOne.tab13 : rtab .any (opsOf Try.f9 13) = selvedgelaw12_CoinOne.T13 := by kernel_rfl
theorem selvedgelaw12_CoinOne.bits13 : waitsOk selvedgelaw12_CoinOne.T13.2 selvedgelaw12_CoinOne.B13 = true := by kernel_rfl
set_option maxHeartbeats 8000000 in
set_option maxRecDepth 100000 in
theorem selvedgelaw12_CoinOne.calls (k : Nat) (a0_0 : ByteArray) (a0_1 : Int) (a0_2 : Int) (a0_3 : Int) (r : Bool) (w : World) (h : selvedgelaw12_CoinOne.f k a0_0 a0_1 a0_2 a0_3 = some r) :
    Calls Try.prog 9 #[.agg #[.string a0_0, .int .i64 a0_1, .int .i64 a0_2, .int .u64 a0_3]] w fun e w' => e = .returned (.bool r) ∧ Below w.heap.size w w' := by
  have hu63 := Try.underlying63
  have hu48 := Try.underlying48
  have hu38 := Try.underlying38
  have hu59 := Try.underlying59
  have hu23 := Try.underlying23
  have HB := Aside0.mk (Below.refl w.heap.size w)
  have H : ((selvedgelaw12_shown.f).bind fun t196 => (if t196 = true then (if a0_2 < 1 then (selvedgelaw12_CoinOne.j0 k a0_0 a0_1 a0_2 a0_3 t196 true) else (selvedgelaw12_CoinOne.j0 k a0_0 a0_1 a0_2 a0_3 t196 (decide (a0_2 > 1000)))) else (selvedgelaw12_CoinOne.j0 k a0_0 a0_1 a0_2 a0_3 t196 true))) = some r := h
  clear h
  replace H := Option.bind_eq_some_iff.mp H
  obtain ⟨t196, A20, H⟩ := H
  replace H : (if t196 = true then (if a0_2 < 1 then (selvedgelaw12_CoinOne.j0 k a0_0 a0_1 a0_2 a0_3 t196 true) else (selvedgelaw12_CoinOne.j0 k a0_0 a0_1 a0_2 a0_3 t196 (decide (a0_2 > 1000)))) else (selvedgelaw12_CoinOne.j0 k a0_0 a0_1 a0_2 a0_3 t196 true)) = some r := H
  have A2 := Aside0.mk A20
  clear A20
  have HC3 := Aside0.mk H
  clear H
  go_enter Try.func9, Try.ntmps9
  go_upto_region 6 with (first | ((with_reducible refine gate_dst (N := 1) rfl ?_); refine box_event ?hg (N := 1) ?hd (cs := #[.string a0_0, .int .i64 a0_1, .int .i64 a0_2, .int .u64 a0_3]) (t := 63) ?hr ?_; (case hd => rfl); (case hg => rfl); (case hr => first | (go_simp; done) | (go_simp; rfl)); intro gb195 hg w4 hbox hb; have n0_ := Aside0.mk (below_step (by repeat (first | (with_reducible first | exact HB.out | apply below_alloc | apply pw_below_drewN | apply below_drew1) | exact HB.out)) hb); have n1_ := Aside0.mk (hbox); have n2_ := Aside0.mk ((by rw [hg]; exact (below_size (by repeat (first | (with_reducible first | exact HB.out | apply below_alloc | apply pw_below_drewN | apply below_drew1) | exact HB.out))) : w.heap.size ≤ gb195)); have n3_ := Aside0.mk ((by rw [hg]; exact (below_size (by repeat (first | (with_reducible first | exact HB.out | apply below_alloc | apply pw_below_drewN | apply below_drew1) | exact HB.out))) : w.heap.size ≤ gb195)); clear HB; have HB := n0_; have BK195 := n1_; have GW195 := n2_; have GE195 := n3_; clear n0_ n1_ n2_ n3_; clear hb hbox hg; have hcz5_0 : w4.cell? ⟨gb195, 0, none⟩ = some (.string a0_0) := (blk_cell BK195.out 0).trans rfl; have hcz5_1 : w4.cell? ⟨gb195, 1, none⟩ = some (.int .i64 a0_1) := (blk_cell BK195.out 1).trans rfl; have hcz5_2 : w4.cell? ⟨gb195, 2, none⟩ = some (.int .i64 a0_2) := (blk_cell BK195.out 2).trans rfl; have hcz5_3 : w4.cell? ⟨gb195, 3, none⟩ = some (.int .u64 a0_3) := (blk_cell BK195.out 3).trans rfl; have hfz5_0 := blk_frozen BK195.out 0; have hfz5_1 := blk_frozen BK195.out 1; have hfz5_2 := blk_frozen BK195.out 2; have hfz5_3 := blk_frozen BK195.out 3) | ((with_reducible refine gate_callee (f := 17) rfl ?_); refine goesL_ (some 23) rfl rfl Try.func17 (by kernel_rfl) rfl #[] rfl (by (try simp only [List.map_toArray, List.map_cons, List.map_nil]); first | done | rfl | (simp only [List.length_drop, List.length_take]; rfl)) ?_; (with_reducible refine (selvedgelaw12_shown.calls  t196 _ A2.out).mono ?_); rintro e w6 ⟨rfl, hb⟩; refine ⟨_, rfl, ?_⟩; have n0_ := Aside0.mk (blk_below (g := gb195) (o := .cells #[.string a0_0, .int .i64 a0_1, .int .i64 a0_2, .int .u64 a0_3] 63 (0, 0)) (by (with_reducible repeat (first | refine blk_drewN ?_ _ | refine blk_drew ?_ | refine blk_alloc ?_ _)); exact BK195.out) hb); have n1_ := Aside0.mk (below_step (by repeat (first | (with_reducible first | exact HB.out | apply below_alloc | apply pw_below_drewN | apply below_drew1 | refine below_set ?_ GE195.out) | exact HB.out)) hb); clear BK195; clear HB; have BK195 := n0_; have HB := n1_; clear n0_ n1_; (try clear hb); (try clear hb2); (try clear hk); (try clear hi)))
  (try simp only [Act.put, List.setIfInBounds_toArray, List.set_cons_zero, List.set_cons_succ])
  go_cut [33] (fun v33 wc => ∃ (kq : Nat) (x33_2 : Bool), v33 = .bool x33_2 ∧ Aside0 (selvedgelaw12_CoinOne.j0 kq a0_0 a0_1 a0_2 a0_3 t196 x33_2 = some r) ∧ Aside0 (kq ≤ k) ∧ Aside0 (wc.heap[gb195]? = some (.cells #[.string a0_0, .int .i64 a0_1, .int .i64 a0_2, .int .u64 a0_3] 63 (0, 0))) ∧ Aside0 (Below w.heap.size w wc))
  case first =>
    have H := HC3.out
    clear HC3
    by_cases c7 : t196 = true
    · subst c7
      have H1 : (if a0_2 < 1 then (selvedgelaw12_CoinOne.j0 k a0_0 a0_1 a0_2 a0_3 true true) else (selvedgelaw12_CoinOne.j0 k a0_0 a0_1 a0_2 a0_3 true (decide (a0_2 > 1000)))) = some r := by rw [if_pos rfl] at H; exact H
      clear H
      have H := H1
      clear H1
      by_cases c8 : a0_2 < 1
      · rw [if_pos c8] at H
        have c8b0 : decide (a0_2 < 1) = true := decide_eq_true c8
        clear c8
        (first | rw [c8b0] | (simp only [i64_w, i32_w]; rw [c8b0]) | skip)
        have H' := Aside0.mk H
        clear H
        go_wp2
        go_meet
        case rel => exact ⟨_, (true), (by first | rfl | (simp; done) | (simp [*]; done)), H', ⟨by first | omega | exact Nat.le_refl _⟩, ⟨by (with_reducible repeat (first | refine blk_drewN ?_ _ | refine blk_drew ?_ | refine blk_alloc ?_ _)); exact BK195.out⟩, ⟨by repeat (first | (with_reducible first | exact HB.out | apply below_alloc | apply pw_below_drewN | apply below_drew1 | refine below_set ?_ GE195.out) | exact HB.out)⟩⟩
      · rw [if_neg c8] at H
        have c8b0 : decide (a0_2 < 1) = false := decide_eq_false c8
        clear c8
        (first | rw [c8b0] | (simp only [i64_w, i32_w]; rw [c8b0]) | skip)
        have H' := Aside0.mk H
        clear H
        go_wp2
        go_meet
        case rel => exact ⟨_, (decide (a0_2 > 1000)), (by first | rfl | (simp; done) | (simp [*]; done)), H', ⟨by first | omega | exact Nat.le_refl _⟩, ⟨by (with_reducible repeat (first | refine blk_drewN ?_ _ | refine blk_drew ?_ | refine blk_alloc ?_ _)); exact BK195.out⟩, ⟨by repeat (first | (with_reducible first | exact HB.out | apply below_alloc | apply pw_below_drewN | apply below_drew1 | refine below_set ?_ GE195.out) | exact HB.out)⟩⟩
    · replace c7 := Bool.eq_false_iff.mpr c7
      subst c7
      have H1 : (selvedgelaw12_CoinOne.j0 k a0_0 a0_1 a0_2 a0_3 false true) = some r := by rw [if_neg (show ¬ (false = true) by decide)] at H; exact H
      clear H
      have H := H1
      clear H1
      have H' := Aside0.mk H
      clear H
      go_wp2
      go_meet
      case rel => exact ⟨_, (true), (by first | rfl | (simp; done) | (simp [*]; done)), H', ⟨by first | omega | exact Nat.le_refl _⟩, ⟨by (with_reducible repeat (first | refine blk_drewN ?_ _ | refine blk_drew ?_ | refine blk_alloc ?_ _)); exact BK195.out⟩, ⟨by repeat (first | (with_reducible first | exact HB.out | apply below_alloc | apply pw_below_drewN | apply below_drew1 | refine below_set ?_ GE195.out) | exact HB.out)⟩⟩
  case rest =>
    clear HC3
    try clear c1
    try clear p2
    try clear c7
    try clear c8
    try clear c8b0
    try clear hcz5_0
    try clear hcz5_1
    try clear hcz5_2
    try clear hcz5_3
    try clear hfz5_0
    try clear hfz5_1
    try clear hfz5_2
    try clear hfz5_3
    obtain ⟨kq, x33_2, rfl, HA, HJ2, BK195, HB⟩ := hcut
    cases kq with
    | zero => exact absurd HA.out (by simp [selvedgelaw12_CoinOne.j0])
    | succ kj2 =>
      have H := HA.out
      clear HA
      simp only [selvedgelaw12_CoinOne.j0] at H
      by_cases c9 : x33_2 = true
      · subst c9
        have H1 : (some t196) = some r := by rw [if_pos rfl] at H; exact H
        clear H
        have H := H1
        clear H1
        obtain rfl := Option.some.inj H
        go_wp2
        go_ret
        exact ⟨by first | rfl | (simp [errW_none, errW_some] <;> rfl) | (simp [*, errW_none, errW_some] <;> rfl), by repeat (first | (with_reducible first | exact HB.out | apply below_alloc | apply pw_below_drewN | apply below_drew1 | refine below_set ?_ GE195.out) | exact HB.out)⟩
      · replace c9 := Bool.eq_false_iff.mpr c9
        subst c9
        have H1 : ((selvedgeref05_List.f kj2 a0_3).bind fun t198 => (selvedgelaw12_CoinOne.l0 kj2 a0_0 a0_1 a0_2 t198 0 a0_1 0 ([] : List (S59)))) = some r := by rw [if_neg (show ¬ (false = true) by decide)] at H; exact H
        clear H
        have H := H1
        clear H1
        replace H := Option.bind_eq_some_iff.mp H
        obtain ⟨t198, A100, H⟩ := H
        replace H : (selvedgelaw12_CoinOne.l0 kj2 a0_0 a0_1 a0_2 t198 0 a0_1 0 ([] : List (S59))) = some r := H
        have A10 := Aside0.mk A100
        clear A100
        have H' := Aside0.mk H
        clear H
        go_wp2_with (first | ((with_reducible refine gate_dst (N := 8) rfl ?_); refine box_event ?hg (N := 8) ?hd (cs := #[.int .i64 0, .int .i64 0, .slice none 0 0]) (t := 48) ?hr ?_; (case hd => rfl); (case hg => rfl); (case hr => first | (go_simp; done) | (go_simp; rfl)); intro gb197 hg w11 hbox hb; have n0_ := Aside0.mk (blk_below (g := gb195) (o := .cells #[.string a0_0, .int .i64 a0_1, .int .i64 a0_2, .int .u64 a0_3] 63 (0, 0)) (by (with_reducible repeat (first | refine blk_drewN ?_ _ | refine blk_drew ?_ | refine blk_alloc ?_ _)); exact BK195.out) hb); have n1_ := Aside0.mk (below_step (by repeat (first | (with_reducible first | exact HB.out | apply below_alloc | apply pw_below_drewN | apply below_drew1 | refine below_set ?_ GE195.out) | exact HB.out)) hb); have n2_ := Aside0.mk (hbox); have n3_ := Aside0.mk ((by rw [hg]; exact (below_size (by repeat (first | (with_reducible first | exact HB.out | apply below_alloc | apply pw_below_drewN | apply below_drew1 | refine below_set ?_ GE195.out) | exact HB.out))) : w.heap.size ≤ gb197)); have n4_ := Aside0.mk ((by rw [hg]; exact (below_size (by repeat (first | (with_reducible first | exact HB.out | apply below_alloc | apply pw_below_drewN | apply below_drew1 | refine below_set ?_ GE195.out) | exact HB.out))) : w.heap.size ≤ gb197)); have n5_ := Aside0.mk ((by rw [hg]; exact Nat.ne_of_lt (blk_lt (g := gb195) (o := .cells #[.string a0_0, .int .i64 a0_1, .int .i64 a0_2, .int .u64 a0_3] 63 (0, 0)) (by (with_reducible repeat (first | refine blk_drewN ?_ _ | refine blk_drew ?_ | refine blk_alloc ?_ _)); exact BK195.out)) : gb195 ≠ gb197)); have n6_ := Aside0.mk ((by rw [hg]; exact Nat.ne_of_gt (blk_lt (g := gb195) (o := .cells #[.string a0_0, .int .i64 a0_1, .int .i64 a0_2, .int .u64 a0_3] 63 (0, 0)) (by (with_reducible repeat (first | refine blk_drewN ?_ _ | refine blk_drew ?_ | refine blk_alloc ?_ _)); exact BK195.out)) : gb197 ≠ gb195)); clear BK195; clear HB; have BK195 := n0_; have HB := n1_; have BK197 := n2_; have GW197 := n3_; have GE197 := n4_; have NB195_197 := n5_; have NB197_195 := n6_; clear n0_ n1_ n2_ n3_ n4_ n5_ n6_; clear hb hbox hg; have hnb12 := NB197_195.out; have hnc12 := NB195_197.out; have hcz13_0 : w11.cell? ⟨gb197, 0, none⟩ = some (.int .i64 0) := (blk_cell BK197.out 0).trans rfl; have hcz13_1 : w11.cell? ⟨gb197, 1, none⟩ = some (.int .i64 0) := (blk_cell BK197.out 1).trans rfl; have hcz13_2 : w11.cell? ⟨gb197, 2, none⟩ = some (.slice none 0 0) := (blk_cell BK197.out 2).trans rfl; have hfz13_0 := blk_frozen BK197.out 0; have hfz13_1 := blk_frozen BK197.out 1; have hfz13_2 := blk_frozen BK197.out 2) | ((with_reducible refine gate_callee (f := 32) rfl ?_); refine goesL_ (some 38) rfl rfl Try.func32 (by kernel_rfl) rfl #[.int .u64 a0_3] rfl (by (try simp only [List.map_toArray, List.map_cons, List.map_nil]); first | done | rfl | (simp only [List.length_drop, List.length_take]; rfl)) ?_; (with_reducible refine (selvedgeref05_List.calls kj2 a0_3 t198 _ A10.out).mono ?_); rintro e w14 ⟨v199, rfl, ho0, hb⟩; refine ⟨_, rfl, ?_⟩; have n0_ := Aside0.mk (Kd.R_lower ho0 (below_size (by repeat (first | (with_reducible first | exact HB.out | apply below_alloc | apply pw_below_drewN | apply below_drew1 | refine below_set ?_ GE195.out | refine below_set ?_ GE197.out) | exact HB.out)))); have n1_ := Aside0.mk (blk_below (g := gb195) (o := .cells #[.string a0_0, .int .i64 a0_1, .int .i64 a0_2, .int .u64 a0_3] 63 (0, 0)) (by (with_reducible repeat (first | refine blk_drewN ?_ _ | refine blk_drew ?_ | refine blk_alloc ?_ _)); refine blk_far ?_ NB195_197.out _; (with_reducible repeat (first | refine blk_drewN ?_ _ | refine blk_drew ?_ | refine blk_alloc ?_ _)); refine blk_far ?_ NB195_197.out _; (with_reducible repeat (first | refine blk_drewN ?_ _ | refine blk_drew ?_ | refine blk_alloc ?_ _)); refine blk_far ?_ NB195_197.out _; (with_reducible repeat (first | refine blk_drewN ?_ _ | refine blk_drew ?_ | refine blk_alloc ?_ _)); exact BK195.out) hb); have n2_ := Aside0.mk (blk_below (g := gb197) (o := .cells #[.int .i64 a0_1, .int .i64 0, .slice none 0 0] 48 (0, 0)) (by (with_reducible repeat (first | refine blk_drewN ?_ _ | refine blk_drew ?_ | refine blk_alloc ?_ _)); refine blk_put (cs := #[.int .i64 a0_1, .int .i64 0, .slice none 0 0]) ?_ 2 _ rfl; (with_reducible repeat (first | refine blk_drewN ?_ _ | refine blk_drew ?_ | refine blk_alloc ?_ _)); refine blk_put (cs := #[.int .i64 a0_1, .int .i64 0, .slice none 0 0]) ?_ 1 _ rfl; (with_reducible repeat (first | refine blk_drewN ?_ _ | refine blk_drew ?_ | refine blk_alloc ?_ _)); refine blk_put (cs := #[.int .i64 0, .int .i64 0, .slice none 0 0]) ?_ 0 _ rfl; (with_reducible repeat (first | refine blk_drewN ?_ _ | refine blk_drew ?_ | refine blk_alloc ?_ _)); exact BK197.out) hb); have n3_ := Aside0.mk (below_step (by repeat (first | (with_reducible first | exact HB.out | apply below_alloc | apply pw_below_drewN | apply below_drew1 | refine below_set ?_ GE195.out | refine below_set ?_ GE197.out) | exact HB.out)) hb); clear BK195; clear BK197; clear HB; have HO200 := n0_; have BK195 := n1_; have BK197 := n2_; have HB := n3_; clear n0_ n1_ n2_ n3_; (try clear hb); (try clear hb2); (try clear hk); (try clear hi); (try clear ho0)))
        go_loopg [10] kj2 (fun kq v10 w' => ∃ (x10_2 : Int) (x198002_2 : List (S59)) (u198002 : Value), v10 = .int .i64 x10_2 ∧ Aside0 (selvedgelaw12_CoinOne.l0 kq a0_0 a0_1 a0_2 t198 x10_2 a0_1 0 x198002_2 = some r) ∧ Aside0 (kq ≤ kj2) ∧ Aside0 (Kd.R (Kd.int .i64) 3 w' w.heap.size (fun _ => True) v199 t198) ∧ Aside0 (Kd.R k59 59 w' w.heap.size (fun _ => True) u198002 x198002_2) ∧ Aside0 (w'.heap[gb195]? = some (.cells #[.string a0_0, .int .i64 a0_1, .int .i64 a0_2, .int .u64 a0_3] 63 (0, 0))) ∧ Aside0 (w'.heap[gb197]? = some (.cells #[.int .i64 a0_1, .int .i64 0, u198002] 48 (0, 0))) ∧ Aside0 (Below w.heap.size w w'))
        case atStart => exact ⟨(0), (([] : List (S59))), (.slice none 0 0), (by first | rfl | (simp; done) | (simp [*]; done)), H', ⟨Nat.le_refl _⟩, ⟨by (with_reducible repeat (first | apply Kd.R_alloc | apply Kd.R_drewN | apply Kd.R_drew)); exact HO200.out⟩, ⟨by first | exact Kd.R_nil _ _ _ _ _ | exact Kd.N_nil _ _ _ _ _ | exact Kd.V_nil _ _ _ _ _ | exact Kd.Q_nil _ _ _ _ _ | exact Kd.S_nil _ _ _ _ _⟩, ⟨by (with_reducible repeat (first | refine blk_drewN ?_ _ | refine blk_drew ?_ | refine blk_alloc ?_ _)); exact BK195.out⟩, ⟨by (with_reducible repeat (first | refine blk_drewN ?_ _ | refine blk_drew ?_ | refine blk_alloc ?_ _)); exact BK197.out⟩, ⟨by repeat (first | (with_reducible first | exact HB.out | apply below_alloc | apply pw_below_drewN | apply below_drew1 | refine below_set ?_ GE195.out | refine below_set ?_ GE197.out) | exact HB.out)⟩⟩
        case round =>
          clear H'
          try clear c1
          try clear p2
          try clear c3
          try clear c7
          try clear c8
          try clear c8b0
          try clear c9
          try clear c12
          try clear hcz13_0
          try clear hcz13_1
          try clear hcz13_2
          try clear hcz5_0
          try clear hcz5_1
          try clear hcz5_2
          try clear hcz5_3
          try clear hfz13_0
          try clear hfz13_1
          try clear hfz13_2
          try clear hfz5_0
          try clear hfz5_1
          try clear hfz5_2
          try clear hfz5_3
          try clear p2
          obtain ⟨x10_2, x198002_2, u198002, rfl, HA, HK2, HO_9, HO_198002, BK195, BK197, HB⟩ := hrel
          cases gk with
          | zero => exact absurd HA.out (by simp [selvedgelaw12_CoinOne.l0])
          | succ k2 =>
            have H := HA.out
            clear HA
            simp only [selvedgelaw12_CoinOne.l0] at H
            by_cases c15 : x10_2 < (t198.length : Int)
            · rw [if_pos c15] at H
              have c15b0 : decide (x10_2 < (t198.length : Int)) = true := decide_eq_true c15
              clear c15
              by_cases c16 : 0 ≤ x10_2
              · rw [if_pos c16] at H
                have c16b0 : decide (0 ≤ x10_2) = true := decide_eq_true c16
                clear c16
                replace H := Option.bind_eq_some_iff.mp H
                obtain ⟨⟨t203, t204⟩, A170, H⟩ := H
                replace H : ((coin_Fits.f a0_0 a0_1 (rd t198 x10_2) (wrap64 (3 * a0_2)) ([] : List (S193)) ([] : List ByteArray) t203 t204).bind fun t206 => (if t206 = true then (if x198002_2.length < 1466015503701 then (selvedgelaw12_CoinOne.l0 k2 a0_0 a0_1 a0_2 t198 (wrap64 (x10_2 + 1)) a0_1 0 (x198002_2 ++ [(⟨(⟨#[]⟩ : ByteArray), (⟨rd t198 x10_2, wrap64 (3 * a0_2), ([] : List (S193)), ([] : List ByteArray), (⟨t203, t204⟩ : S23)⟩ : S38)⟩ : S59)])) else (none)) else (some false))) = some r := H
                have A17 := Aside0.mk A170
                clear A170
                replace H := Option.bind_eq_some_iff.mp H
                obtain ⟨t206, A180, H⟩ := H
                replace H : (if t206 = true then (if x198002_2.length < 1466015503701 then (selvedgelaw12_CoinOne.l0 k2 a0_0 a0_1 a0_2 t198 (wrap64 (x10_2 + 1)) a0_1 0 (x198002_2 ++ [(⟨(⟨#[]⟩ : ByteArray), (⟨rd t198 x10_2, wrap64 (3 * a0_2), ([] : List (S193)), ([] : List ByteArray), (⟨t203, t204⟩ : S23)⟩ : S38)⟩ : S59)])) else (none)) else (some false)) = some r := H
                have A18 := Aside0.mk A180
                clear A180
                by_cases c19 : t206 = true
                · subst c19
                  have H1 : (if x198002_2.length < 1466015503701 then (selvedgelaw12_CoinOne.l0 k2 a0_0 a0_1 a0_2 t198 (wrap64 (x10_2 + 1)) a0_1 0 (x198002_2 ++ [(⟨(⟨#[]⟩ : ByteArray), (⟨rd t198 x10_2, wrap64 (3 * a0_2), ([] : List (S193)), ([] : List ByteArray), (⟨t203, t204⟩ : S23)⟩ : S38)⟩ : S59)])) else (none)) = some r := by rw [if_pos rfl] at H; exact H
                  clear H
                  have H := H1
                  clear H1
                  by_cases c20 : x198002_2.length < 1466015503701
                  · rw [if_pos c20] at H
                    have LMc20 := Aside0.mk c20
                    clear c20
                    obtain ⟨y207, hy207⟩ : ∃ y_ : List (S59), y_ = (x198002_2 ++ [(⟨(⟨#[]⟩ : ByteArray), (⟨rd t198 x10_2, wrap64 (3 * a0_2), ([] : List (S193)), ([] : List ByteArray), (⟨t203, t204⟩ : S23)⟩ : S38)⟩ : S59)]) := ⟨_, rfl⟩
                    replace H : (selvedgelaw12_CoinOne.l0 k2 a0_0 a0_1 a0_2 t198 (wrap64 (x10_2 + 1)) a0_1 0 y207) = some r := by first | (rw [hy207]; with_reducible exact H) | (have H2_ := (Option.bind_some _ _).symm.trans H; rw [hy207]; with_reducible exact H2_) | (have H2_ := (Option.bind_some _ _).symm.trans H; with_reducible exact H2_) | with_reducible exact H | (rw [hy207]; exact H) | exact H
                    have Ny207 := Aside0.mk hy207
                    clear hy207
                    have H' := Aside0.mk H
                    clear H
                    obtain ⟨Ao21, co21, eo21⟩ := Kd.R_slice HO_9.out
                    subst eo21
                    try go_wp2
                    have n0_ := Aside0.mk (Kd.R_drew HO_9.out)
                    have n1_ := Aside0.mk (Kd.R_drew HO_198002.out)
                    have n2_ := Aside0.mk (blk_drew BK195.out)
                    have n3_ := Aside0.mk (blk_drew BK197.out)
                    have n4_ := Aside0.mk (below_drew1 HB.out)
                    clear HO_9
                    clear HO_198002
                    clear BK195
                    clear BK197
                    clear HB
                    have HO_9 := n0_
                    have HO_198002 := n1_
                    have BK195 := n2_
                    have BK197 := n3_
                    have HB := n4_
                    clear n0_ n1_ n2_ n3_ n4_
                    have p201 : 0 ≤ (x10_2 : Int) := of_decide_eq_true (by first | (with_reducible assumption) | assumption)
                    have q201 : x10_2 < (t198.length : Int) := of_decide_eq_true (by first | (with_reducible assumption) | assumption)
                    obtain ⟨ad201, e201, hx201_0⟩ := Kd.at_int (Kd.R_reads' HO_9.out).2.2 x10_2 p201 q201
                    cases e201
                    replace p201 := eq_true p201
                    replace q201 := eq_true q201
                    have p202 : 0 ≤ (x10_2 : Int) := of_decide_eq_true (by first | (with_reducible assumption) | assumption)
                    have q202 : x10_2 < (t198.length : Int) := of_decide_eq_true (by first | (with_reducible assumption) | assumption)
                    obtain ⟨ad202, e202, hx202_0⟩ := Kd.at_int (Kd.R_reads' HO_9.out).2.2 x10_2 p202 q202
                    obtain rfl : ad201 = ad202 := (by injection e202)
                    replace p202 := eq_true p202
                    replace q202 := eq_true q202
                    refine start_ (n := 17) (S := fun w' => w'.cell? (ad201.add (x10_2).toNat) = some (.int .i64 (rd t198 x10_2)) ∧ w'.cell? (ad201.add (x10_2).toNat) = some (.int .i64 (rd t198 x10_2))) (ds := []) #[false, false, false, false, false, false, false, false, false, false, false, false, false, false, false, false, false] (by kernel_rfl) rfl rfl ⟨hx201_0, hx202_0⟩ (fun hHeld => ?_); refine with_tabW selvedgelaw12_CoinOne.tab13 selvedgelaw12_CoinOne.bits13 (fun HT_ HW_ => ?_)
                    generalize wr.drew = w22 at HO_9 HO_198002 BK195 BK197 HB hx201_0 hx202_0 hHeld ⊢
                    refine pure_ (i := 0) (N := some 45) (v := ?_) (a' := ?_) #[true, false, false, false, false, false, false, false, false, false, false, false, false, false, false, false, false] rfl rfl (any_of HT_.out (by kernel_rfl)) (fun _ _ _ h => h) (Or.inl ⟨by rfl, ?_⟩) ?_ ?_
                    rotate_left
                    · intro w'
                      go_simp
                      with_reducible rfl
                    rotate_left
                    · simp only [Act.put, List.setIfInBounds_toArray, List.set_cons_zero, List.set_cons_succ, i64_w, i32_w]
                      rfl
                    refine pure_ (i := 1) (N := some 46) (v := ?_) (a' := ?_) #[true, true, false, false, false, false, false, false, false, false, false, false, false, false, false, false, false] rfl rfl (any_of HT_.out (by kernel_rfl)) (fun _ _ _ h => h) (Or.inl ⟨by rfl, ?_⟩) ?_ ?_
                    rotate_left
                    · intro w'
                      go_simp
                      with_reducible rfl
                    rotate_left
                    · simp only [Act.put, List.setIfInBounds_toArray, List.set_cons_zero, List.set_cons_succ, i64_w, i32_w]
                      rfl
                    refine pure_ (i := 2) (N := some 47) (v := ?_) (a' := ?_) #[true, true, true, false, false, false, false, false, false, false, false, false, false, false, false, false, false] rfl rfl (any_of HT_.out (by kernel_rfl)) (fun _ _ _ h => h) (Or.inl ⟨by rfl, ?_⟩) ?_ ?_
                    rotate_left
                    · intro w'
                      go_simp
                      with_reducible rfl
                    rotate_left
                    · simp only [Act.put, List.setIfInBounds_toArray, List.set_cons_zero, List.set_cons_succ, i64_w, i32_w]
                      rfl
                    refine pure_ (i := 4) (N := some 49) (v := ?_) (a' := ?_) #[true, true, true, false, true, false, false, false, false, false, false, false, false, false, false, false, false] rfl rfl (any_of HT_.out (by kernel_rfl)) (fun _ _ _ h => h) (Or.inl ⟨by rfl, ?_⟩) ?_ ?_
                    rotate_left
                    · intro w'
                      go_simp
                      with_reducible rfl
                    rotate_left
                    · simp only [Act.put, List.setIfInBounds_toArray, List.set_cons_zero, List.set_cons_succ, i64_w, i32_w]
                      rfl
                    refine pure_ (i := 5) (N := some 50) (v := ?_) (a' := ?_) #[true, true, true, false, true, true, false, false, false, false, false, false, false, false, false, false, false] rfl rfl (any_of HT_.out (by kernel_rfl)) (fun _ _ _ h => h) (Or.inl ⟨by rfl, ?_⟩) ?_ ?_
                    rotate_left
                    · intro w'
                      go_simp
                      with_reducible rfl
                    rotate_left
                    · simp only [Act.put, List.setIfInBounds_toArray, List.set_cons_zero, List.set_cons_succ, i64_w, i32_w]
                      rfl
                    refine pure_ (i := 6) (N := some 51) (v := ?_) (a' := ?_) #[true, true, true, false, true, true, true, false, false, false, false, false, false, false, false, false, false] rfl rfl (any_of HT_.out (by kernel_rfl)) (fun _ _ _ h => h) (Or.inl ⟨by rfl, ?_⟩) ?_ ?_
                    rotate_left
                    · intro w'
                      go_simp
                      with_reducible rfl
                    rotate_left
                    · simp only [Act.put, List.setIfInBounds_toArray, List.set_cons_zero, List.set_cons_succ, i64_w, i32_w]
                      rfl
                    refine pure_ (i := 7) (N := some 52) (v := ?_) (a' := ?_) #[true, true, true, false, true, true, true, true, false, false, false, false, false, false, false, false, false] rfl rfl (any_of HT_.out (by kernel_rfl)) (fun _ _ _ h => h) (Or.inl ⟨by rfl, ?_⟩) ?_ ?_
                    rotate_left
                    · intro w'
                      go_simp
                      with_reducible rfl
                    rotate_left
                    · simp only [Act.put, List.setIfInBounds_toArray, List.set_cons_zero, List.set_cons_succ, i64_w, i32_w]
                      rfl
                    refine pure_ (i := 8) (N := some 53) (v := ?_) (a' := ?_) #[true, true, true, false, true, true, true, true, true, false, false, false, false, false, false, false, false] rfl rfl (any_of HT_.out (by kernel_rfl)) (fun _ _ _ h => h) (Or.inl ⟨by rfl, ?_⟩) ?_ ?_
                    rotate_left
                    · intro w'
                      go_simp
                      with_reducible rfl
                    rotate_left
                    · simp only [Act.put, List.setIfInBounds_toArray, List.set_cons_zero, List.set_cons_succ, i64_w, i32_w]
                      rfl
                    refine pure_ (i := 9) (N := some 54) (v := ?_) (a' := ?_) #[true, true, true, false, true, true, true, true, true, true, false, false, false, false, false, false, false] rfl rfl (any_of HT_.out (by kernel_rfl)) (fun _ _ _ h => h) (Or.inl ⟨by rfl, ?_⟩) ?_ ?_
                    rotate_left
                    · intro w'
                      go_simp
                      with_reducible rfl
                    rotate_left
                    · simp only [Act.put, List.setIfInBounds_toArray, List.set_cons_zero, List.set_cons_succ, i64_w, i32_w]
                      rfl
                    refine pure_ (i := 10) (N := some 55) (v := ?_) (a' := ?_) #[true, true, true, false, true, true, true, true, true, true, true, false, false, false, false, false, false] rfl rfl (any_of HT_.out (by kernel_rfl)) (fun _ _ _ h => h) (Or.inl ⟨by rfl, ?_⟩) ?_ ?_
                    rotate_left
                    · intro w'
                      go_simp
                      with_reducible rfl
                    rotate_left
                    · simp only [Act.put, List.setIfInBounds_toArray, List.set_cons_zero, List.set_cons_succ, i64_w, i32_w]
                      rfl
                    refine pure_ (i := 11) (N := some 56) (v := ?_) (a' := ?_) #[true, true, true, false, true, true, true, true, true, true, true, true, false, false, false, false, false] rfl rfl (any_of HT_.out (by kernel_rfl)) (fun _ _ _ h => h) (Or.inl ⟨by rfl, ?_⟩) ?_ ?_
                    rotate_left
                    · intro w'
                      go_simp
                      with_reducible rfl
                    rotate_left
                    · simp only [Act.put, List.setIfInBounds_toArray, List.set_cons_zero, List.set_cons_succ, i64_w, i32_w]
                      rfl
                    refine take_ (i := 3) (N := some 48) (v := ?_) (a' := ?_) #[true, true, true, true, true, true, true, true, true, true, true, true, false, false, false, false, false] rfl rfl (take_ofW HT_.out HW_.out (by kernel_rfl)) (fun _ _ _ h => h) (Or.inl ⟨by rfl, ?_⟩) hHeld ?_ ?_
                    rotate_left
                    · rintro w' ⟨s0, s1⟩
                      go_simp
                      with_reducible rfl
                    rotate_left
                    · simp only [Act.put, List.setIfInBounds_toArray, List.set_cons_zero, List.set_cons_succ, i64_w, i32_w]
                      rfl
                    refine take_ (i := 12) (N := some 57) (v := ?_) (a' := ?_) #[true, true, true, true, true, true, true, true, true, true, true, true, true, false, false, false, false] rfl rfl (take_ofW HT_.out HW_.out (by kernel_rfl)) (fun _ _ _ h => h) (Or.inl ⟨by rfl, ?_⟩) hHeld ?_ ?_
                    rotate_left
                    · rintro w' ⟨s0, s1⟩
                      go_simp
                      with_reducible rfl
                    rotate_left
                    · simp only [Act.put, List.setIfInBounds_toArray, List.set_cons_zero, List.set_cons_succ, i64_w, i32_w]
                      rfl
                    refine join_ (σ := Nat) 1 #[true, true, true, true, true, true, true, true, true, true, true, true, true, true, true, true, false] (fun s_ => [(58, .agg #[.int .i64 t203, .int .i64 t204]), (11, .pointer (some ⟨s_, 0, none⟩)), (59, .agg #[.int .i64 (rd t198 x10_2), .int .i64 (wrap64 (3 * a0_2)), .slice none 0 0, .slice none 0 0, .int .i64 t203, .int .i64 t204])]) (fun s_ w' => (w'.cell? (ad201.add (x10_2).toNat) = some (.int .i64 (rd t198 x10_2)) ∧ w'.cell? (ad201.add (x10_2).toNat) = some (.int .i64 (rd t198 x10_2))) ∧ (Kd.R k59 59 w' w.heap.size (fun _ => True) u198002 x198002_2) ∧ (Kd.R (Kd.int .i64) 3 w' w.heap.size (fun _ => True) (.slice (some ad201) t198.length co21) t198) ∧ (w'.heap[gb195]? = some (.cells #[.string a0_0, .int .i64 a0_1, .int .i64 a0_2, .int .u64 a0_3] 63 (0, 0))) ∧ (w'.heap[gb197]? = some (.cells #[.int .i64 a0_1, .int .i64 0, u198002] 48 (0, 0))) ∧ (w'.heap[s_]? = some (.cells #[.int .i64 0, .int .i64 0, .slice none 0 0, .slice none 0 0, .int .i64 0, .int .i64 0] 38 (0, 0))) ∧ (w.heap.size ≤ s_) ∧ (w.heap.size ≤ s_) ∧ (gb195 ≠ s_) ∧ (s_ ≠ gb195) ∧ (gb197 ≠ s_) ∧ (s_ ≠ gb197) ∧ (Below w.heap.size w w')) ?_ ?_
                    rotate_left
                    · intro hCont
                      refine two_ (i := 13) (j := 15) (Ni := some 58) (Nj := some 11) #[true, true, true, true, true, true, true, true, true, true, true, true, true, true, false, false, false] #[true, true, true, true, true, true, true, true, true, true, true, true, true, false, false, true, false] rfl rfl rfl rfl (two_of HT_.out (by kernel_rfl)) (by decide) (by decide) (fun K hK => ?_) (fun K hK => ?_)
                      · skip
                        refine goes_ Try.func23 (by kernel_rfl) rfl #[.string a0_0, .int .i64 a0_2, .int .i64 a0_1, .int .i64 (rd t198 x10_2)] (by rfl) rfl rfl (by (try simp only [List.map_toArray, List.map_cons, List.map_nil]); first | done | rfl | (simp only [List.length_drop, List.length_take]; rfl)) ?_
                        with_reducible refine (coin_Own.calls a0_0 a0_2 a0_1 (rd t198 x10_2) t203 t204 _ A17.out).mono ?_
                        rintro e w23 ⟨rfl, hb⟩
                        have HS0_ := (hb.cell (World.block_lt_of_cell? _ _ (hHeld.1))).trans (hHeld.1)
                        have HS1_ := (hb.cell (World.block_lt_of_cell? _ _ (hHeld.2))).trans (hHeld.2)
                        refine ⟨_, rfl, ?_⟩
                        have n0_ := Aside0.mk (Kd.R_below (by (with_reducible repeat (first | apply Kd.R_alloc | apply Kd.R_drewN | apply Kd.R_drew)); exact HO_9.out) hb)
                        have n1_ := Aside0.mk (Kd.R_below (by (with_reducible repeat (first | apply Kd.R_alloc | apply Kd.R_drewN | apply Kd.R_drew)); exact HO_198002.out) hb)
                        have n2_ := Aside0.mk (blk_below (g := gb195) (o := .cells #[.string a0_0, .int .i64 a0_1, .int .i64 a0_2, .int .u64 a0_3] 63 (0, 0)) (by (with_reducible repeat (first | refine blk_drewN ?_ _ | refine blk_drew ?_ | refine blk_alloc ?_ _)); exact BK195.out) hb)
                        have n3_ := Aside0.mk (blk_below (g := gb197) (o := .cells #[.int .i64 a0_1, .int .i64 0, u198002] 48 (0, 0)) (by (with_reducible repeat (first | refine blk_drewN ?_ _ | refine blk_drew ?_ | refine blk_alloc ?_ _)); exact BK197.out) hb)
                        have n4_ := Aside0.mk (below_step (by repeat (first | (with_reducible first | exact HB.out | apply below_alloc | apply pw_below_drewN | apply below_drew1 | refine below_set ?_ GE195.out | refine below_set ?_ GE197.out) | exact HB.out)) hb)
                        clear HO_9
                        clear HO_198002
                        clear BK195
                        clear BK197
                        clear HB
                        have HO_9 := n0_
                        have HO_198002 := n1_
                        have BK195 := n2_
                        have BK197 := n3_
                        have HB := n4_
                        clear n0_ n1_ n2_ n3_ n4_
                        (try clear hb)
                        (try clear hb2)
                        (try clear hk)
                        (try clear hi)
                        refine hK.out _ _ ⟨HS0_, HS1_⟩ (fun hHeld => ?_)
                        clear hK K
                        refine norm_ (a' := ?_) ?_ ?_
                        rotate_left
                        · show Act.put _ (some 58) _ = _
                          simp only [Act.put, List.setIfInBounds_toArray, List.set_cons_zero, List.set_cons_succ, i64_w, i32_w]
                          rfl
                        refine pure_ (i := 14) (N := some 59) (v := ?_) (a' := ?_) #[true, true, true, true, true, true, true, true, true, true, true, true, true, true, true, false, false] rfl rfl (any_of HT_.out (by kernel_rfl)) (fun _ _ _ h => h) (Or.inl ⟨by rfl, ?_⟩) ?_ ?_
                        rotate_left
                        · intro w'
                          go_simp
                          with_reducible rfl
                        rotate_left
                        · simp only [Act.put, List.setIfInBounds_toArray, List.set_cons_zero, List.set_cons_succ, i64_w, i32_w]
                          rfl
                        refine one_ (i := 15) (N := some 11) #[true, true, true, true, true, true, true, true, true, true, true, true, true, true, true, true, false] rfl rfl (one_of HT_.out (by kernel_rfl)) (by decide) (fun K hK => ?_)
                        refine box_step ?hg (N := 11) ?hd (cs := #[.int .i64 0, .int .i64 0, .slice none 0 0, .slice none 0 0, .int .i64 0, .int .i64 0]) (t := 38) ?hr ?_; (case hd => rfl); (case hg => rfl); (case hr => first | (go_simp; done) | (go_simp; rfl))
                        intro gb205 hg w24 hbox hb
                        have HS0_ := (hb.cell (World.block_lt_of_cell? _ _ (hHeld.1))).trans (hHeld.1)
                        have HS1_ := (hb.cell (World.block_lt_of_cell? _ _ (hHeld.2))).trans (hHeld.2)
                        have n0_ := Aside0.mk (Kd.R_below (by (with_reducible repeat (first | apply Kd.R_alloc | apply Kd.R_drewN | apply Kd.R_drew)); exact HO_9.out) hb)
                        have n1_ := Aside0.mk (Kd.R_below (by (with_reducible repeat (first | apply Kd.R_alloc | apply Kd.R_drewN | apply Kd.R_drew)); exact HO_198002.out) hb)
                        have n2_ := Aside0.mk (blk_below (g := gb195) (o := .cells #[.string a0_0, .int .i64 a0_1, .int .i64 a0_2, .int .u64 a0_3] 63 (0, 0)) (by (with_reducible repeat (first | refine blk_drewN ?_ _ | refine blk_drew ?_ | refine blk_alloc ?_ _)); exact BK195.out) hb)
                        have n3_ := Aside0.mk (blk_below (g := gb197) (o := .cells #[.int .i64 a0_1, .int .i64 0, u198002] 48 (0, 0)) (by (with_reducible repeat (first | refine blk_drewN ?_ _ | refine blk_drew ?_ | refine blk_alloc ?_ _)); exact BK197.out) hb)
                        have n4_ := Aside0.mk (below_step (by repeat (first | (with_reducible first | exact HB.out | apply below_alloc | apply pw_below_drewN | apply below_drew1 | refine below_set ?_ GE195.out | refine below_set ?_ GE197.out) | exact HB.out)) hb)
                        have n5_ := Aside0.mk (hbox)
                        have n6_ := Aside0.mk ((by rw [hg]; exact (below_size (by repeat (first | (with_reducible first | exact HB.out | apply below_alloc | apply pw_below_drewN | apply below_drew1 | refine below_set ?_ GE195.out | refine below_set ?_ GE197.out) | exact HB.out))) : w.heap.size ≤ gb205))
                        have n7_ := Aside0.mk ((by rw [hg]; exact (below_size (by repeat (first | (with_reducible first | exact HB.out | apply below_alloc | apply pw_below_drewN | apply below_drew1 | refine below_set ?_ GE195.out | refine below_set ?_ GE197.out) | exact HB.out))) : w.heap.size ≤ gb205))
                        have n8_ := Aside0.mk ((by rw [hg]; exact Nat.ne_of_lt (blk_lt (g := gb195) (o := .cells #[.string a0_0, .int .i64 a0_1, .int .i64 a0_2, .int .u64 a0_3] 63 (0, 0)) (by (with_reducible repeat (first | refine blk_drewN ?_ _ | refine blk_drew ?_ | refine blk_alloc ?_ _)); exact BK195.out)) : gb195 ≠ gb205))
                        have n9_ := Aside0.mk ((by rw [hg]; exact Nat.ne_of_gt (blk_lt (g := gb195) (o := .cells #[.string a0_0, .int .i64 a0_1, .int .i64 a0_2, .int .u64 a0_3] 63 (0, 0)) (by (with_reducible repeat (first | refine blk_drewN ?_ _ | refine blk_drew ?_ | refine blk_alloc ?_ _)); exact BK195.out)) : gb205 ≠ gb195))
                        have n10_ := Aside0.mk ((by rw [hg]; exact Nat.ne_of_lt (blk_lt (g := gb197) (o := .cells #[.int .i64 a0_1, .int .i64 0, u198002] 48 (0, 0)) (by (with_reducible repeat (first | refine blk_drewN ?_ _ | refine blk_drew ?_ | refine blk_alloc ?_ _)); exact BK197.out)) : gb197 ≠ gb205))
                        have n11_ := Aside0.mk ((by rw [hg]; exact Nat.ne_of_gt (blk_lt (g := gb197) (o := .cells #[.int .i64 a0_1, .int .i64 0, u198002] 48 (0, 0)) (by (with_reducible repeat (first | refine blk_drewN ?_ _ | refine blk_drew ?_ | refine blk_alloc ?_ _)); exact BK197.out)) : gb205 ≠ gb197))
                        clear HO_9
                        clear HO_198002
                        clear BK195
                        clear BK197
                        clear HB
                        have HO_9 := n0_
                        have HO_198002 := n1_
                        have BK195 := n2_
                        have BK197 := n3_
                        have HB := n4_
                        have BK205 := n5_
                        have GW205 := n6_
                        have GE205 := n7_
                        have NB195_205 := n8_
                        have NB205_195 := n9_
                        have NB197_205 := n10_
                        have NB205_197 := n11_
                        clear n0_ n1_ n2_ n3_ n4_ n5_ n6_ n7_ n8_ n9_ n10_ n11_
                        clear hb hbox hg
                        refine hK.out _ _ ⟨HS0_, HS1_⟩ (fun hHeld => ?_)
                        clear hK K
                        refine norm_ (a' := ?_) ?_ ?_
                        rotate_left
                        · show Act.put _ (some 11) _ = _
                          simp only [Act.put, List.setIfInBounds_toArray, List.set_cons_zero, List.set_cons_succ, i64_w, i32_w]
                          rfl
                        exact norm_ (by simp only [putAll, Act.put, List.setIfInBounds_toArray, List.set_cons_zero, List.set_cons_succ]) (hCont (gb205) _ ⟨hHeld, (by (with_reducible repeat (first | apply Kd.R_alloc | apply Kd.R_drewN | apply Kd.R_drew)); exact HO_198002.out), (by (with_reducible repeat (first | apply Kd.R_alloc | apply Kd.R_drewN | apply Kd.R_drew)); exact HO_9.out), (by (with_reducible repeat (first | refine blk_drewN ?_ _ | refine blk_drew ?_ | refine blk_alloc ?_ _)); exact BK195.out), (by (with_reducible repeat (first | refine blk_drewN ?_ _ | refine blk_drew ?_ | refine blk_alloc ?_ _)); exact BK197.out), (by (with_reducible repeat (first | refine blk_drewN ?_ _ | refine blk_drew ?_ | refine blk_alloc ?_ _)); exact BK205.out), GW205.out, GE205.out, NB195_205.out, NB205_195.out, NB197_205.out, NB205_197.out, (by repeat (first | (with_reducible first | exact HB.out | apply below_alloc | apply pw_below_drewN | apply below_drew1 | refine below_set ?_ GE195.out | refine below_set ?_ GE197.out | refine below_set ?_ GE205.out) | exact HB.out))⟩)
                      · skip
                        refine box_step ?hg (N := 11) ?hd (cs := #[.int .i64 0, .int .i64 0, .slice none 0 0, .slice none 0 0, .int .i64 0, .int .i64 0]) (t := 38) ?hr ?_; (case hd => rfl); (case hg => rfl); (case hr => first | (go_simp; done) | (go_simp; rfl))
                        intro gb205 hg w23 hbox hb
                        have HS0_ := (hb.cell (World.block_lt_of_cell? _ _ (hHeld.1))).trans (hHeld.1)
                        have HS1_ := (hb.cell (World.block_lt_of_cell? _ _ (hHeld.2))).trans (hHeld.2)
                        have n0_ := Aside0.mk (Kd.R_below (by (with_reducible repeat (first | apply Kd.R_alloc | apply Kd.R_drewN | apply Kd.R_drew)); exact HO_9.out) hb)
                        have n1_ := Aside0.mk (Kd.R_below (by (with_reducible repeat (first | apply Kd.R_alloc | apply Kd.R_drewN | apply Kd.R_drew)); exact HO_198002.out) hb)
                        have n2_ := Aside0.mk (blk_below (g := gb195) (o := .cells #[.string a0_0, .int .i64 a0_1, .int .i64 a0_2, .int .u64 a0_3] 63 (0, 0)) (by (with_reducible repeat (first | refine blk_drewN ?_ _ | refine blk_drew ?_ | refine blk_alloc ?_ _)); exact BK195.out) hb)
                        have n3_ := Aside0.mk (blk_below (g := gb197) (o := .cells #[.int .i64 a0_1, .int .i64 0, u198002] 48 (0, 0)) (by (with_reducible repeat (first | refine blk_drewN ?_ _ | refine blk_drew ?_ | refine blk_alloc ?_ _)); exact BK197.out) hb)
                        have n4_ := Aside0.mk (below_step (by repeat (first | (with_reducible first | exact HB.out | apply below_alloc | apply pw_below_drewN | apply below_drew1 | refine below_set ?_ GE195.out | refine below_set ?_ GE197.out) | exact HB.out)) hb)
                        have n5_ := Aside0.mk (hbox)
                        have n6_ := Aside0.mk ((by rw [hg]; exact (below_size (by repeat (first | (with_reducible first | exact HB.out | apply below_alloc | apply pw_below_drewN | apply below_drew1 | refine below_set ?_ GE195.out | refine below_set ?_ GE197.out) | exact HB.out))) : w.heap.size ≤ gb205))
                        have n7_ := Aside0.mk ((by rw [hg]; exact (below_size (by repeat (first | (with_reducible first | exact HB.out | apply below_alloc | apply pw_below_drewN | apply below_drew1 | refine below_set ?_ GE195.out | refine below_set ?_ GE197.out) | exact HB.out))) : w.heap.size ≤ gb205))
                        have n8_ := Aside0.mk ((by rw [hg]; exact Nat.ne_of_lt (blk_lt (g := gb195) (o := .cells #[.string a0_0, .int .i64 a0_1, .int .i64 a0_2, .int .u64 a0_3] 63 (0, 0)) (by (with_reducible repeat (first | refine blk_drewN ?_ _ | refine blk_drew ?_ | refine blk_alloc ?_ _)); exact BK195.out)) : gb195 ≠ gb205))
                        have n9_ := Aside0.mk ((by rw [hg]; exact Nat.ne_of_gt (blk_lt (g := gb195) (o := .cells #[.string a0_0, .int .i64 a0_1, .int .i64 a0_2, .int .u64 a0_3] 63 (0, 0)) (by (with_reducible repeat (first | refine blk_drewN ?_ _ | refine blk_drew ?_ | refine blk_alloc ?_ _)); exact BK195.out)) : gb205 ≠ gb195))
                        have n10_ := Aside0.mk ((by rw [hg]; exact Nat.ne_of_lt (blk_lt (g := gb197) (o := .cells #[.int .i64 a0_1, .int .i64 0, u198002] 48 (0, 0)) (by (with_reducible repeat (first | refine blk_drewN ?_ _ | refine blk_drew ?_ | refine blk_alloc ?_ _)); exact BK197.out)) : gb197 ≠ gb205))
                        have n11_ := Aside0.mk ((by rw [hg]; exact Nat.ne_of_gt (blk_lt (g := gb197) (o := .cells #[.int .i64 a0_1, .int .i64 0, u198002] 48 (0, 0)) (by (with_reducible repeat (first | refine blk_drewN ?_ _ | refine blk_drew ?_ | refine blk_alloc ?_ _)); exact BK197.out)) : gb205 ≠ gb197))
                        clear HO_9
                        clear HO_198002
                        clear BK195
                        clear BK197
                        clear HB
                        have HO_9 := n0_
                        have HO_198002 := n1_
                        have BK195 := n2_
                        have BK197 := n3_
                        have HB := n4_
                        have BK205 := n5_
                        have GW205 := n6_
                        have GE205 := n7_
                        have NB195_205 := n8_
                        have NB205_195 := n9_
                        have NB197_205 := n10_
                        have NB205_197 := n11_
                        clear n0_ n1_ n2_ n3_ n4_ n5_ n6_ n7_ n8_ n9_ n10_ n11_
                        clear hb hbox hg
                        refine hK.out _ _ ⟨HS0_, HS1_⟩ (fun hHeld => ?_)
                        clear hK K
                        refine norm_ (a' := ?_) ?_ ?_
                        rotate_left
                        · show Act.put _ (some 11) _ = _
                          simp only [Act.put, List.setIfInBounds_toArray, List.set_cons_zero, List.set_cons_succ, i64_w, i32_w]
                          rfl
                        refine one_ (i := 13) (N := some 58) #[true, true, true, true, true, true, true, true, true, true, true, true, true, true, false, true, false] rfl rfl (one_of HT_.out (by kernel_rfl)) (by decide) (fun K hK => ?_)
                        refine goes_ Try.func23 (by kernel_rfl) rfl #[.string a0_0, .int .i64 a0_2, .int .i64 a0_1, .int .i64 (rd t198 x10_2)] (by rfl) rfl rfl (by (try simp only [List.map_toArray, List.map_cons, List.map_nil]); first | done | rfl | (simp only [List.length_drop, List.length_take]; rfl)) ?_
                        with_reducible refine (coin_Own.calls a0_0 a0_2 a0_1 (rd t198 x10_2) t203 t204 _ A17.out).mono ?_
                        rintro e w24 ⟨rfl, hb⟩
                        have HS0_ := (hb.cell (World.block_lt_of_cell? _ _ (hHeld.1))).trans (hHeld.1)
                        have HS1_ := (hb.cell (World.block_lt_of_cell? _ _ (hHeld.2))).trans (hHeld.2)
                        refine ⟨_, rfl, ?_⟩
                        have n0_ := Aside0.mk (Kd.R_below (by (with_reducible repeat (first | apply Kd.R_alloc | apply Kd.R_drewN | apply Kd.R_drew)); exact HO_9.out) hb)
                        have n1_ := Aside0.mk (Kd.R_below (by (with_reducible repeat (first | apply Kd.R_alloc | apply Kd.R_drewN | apply Kd.R_drew)); exact HO_198002.out) hb)
                        have n2_ := Aside0.mk (blk_below (g := gb195) (o := .cells #[.string a0_0, .int .i64 a0_1, .int .i64 a0_2, .int .u64 a0_3] 63 (0, 0)) (by (with_reducible repeat (first | refine blk_drewN ?_ _ | refine blk_drew ?_ | refine blk_alloc ?_ _)); exact BK195.out) hb)
                        have n3_ := Aside0.mk (blk_below (g := gb197) (o := .cells #[.int .i64 a0_1, .int .i64 0, u198002] 48 (0, 0)) (by (with_reducible repeat (first | refine blk_drewN ?_ _ | refine blk_drew ?_ | refine blk_alloc ?_ _)); exact BK197.out) hb)
                        have n4_ := Aside0.mk (blk_below (g := gb205) (o := .cells #[.int .i64 0, .int .i64 0, .slice none 0 0, .slice none 0 0, .int .i64 0, .int .i64 0] 38 (0, 0)) (by (with_reducible repeat (first | refine blk_drewN ?_ _ | refine blk_drew ?_ | refine blk_alloc ?_ _)); exact BK205.out) hb)
                        have n5_ := Aside0.mk (below_step (by repeat (first | (with_reducible first | exact HB.out | apply below_alloc | apply pw_below_drewN | apply below_drew1 | refine below_set ?_ GE195.out | refine below_set ?_ GE197.out | refine below_set ?_ GE205.out) | exact HB.out)) hb)
                        clear HO_9
                        clear HO_198002
                        clear BK195
                        clear BK197
                        clear BK205
                        clear HB
                        have HO_9 := n0_
                        have HO_198002 := n1_
                        have BK195 := n2_
                        have BK197 := n3_
                        have BK205 := n4_
                        have HB := n5_
                        clear n0_ n1_ n2_ n3_ n4_ n5_
                        (try clear hb)
                        (try clear hb2)
                        (try clear hk)
                        (try clear hi)
                        refine hK.out _ _ ⟨HS0_, HS1_⟩ (fun hHeld => ?_)
                        clear hK K
                        refine norm_ (a' := ?_) ?_ ?_
                        rotate_left
                        · show Act.put _ (some 58) _ = _
                          simp only [Act.put, List.setIfInBounds_toArray, List.set_cons_zero, List.set_cons_succ, i64_w, i32_w]
                          rfl
                        refine pure_ (i := 14) (N := some 59) (v := ?_) (a' := ?_) #[true, true, true, true, true, true, true, true, true, true, true, true, true, true, true, true, false] rfl rfl (any_of HT_.out (by kernel_rfl)) (fun _ _ _ h => h) (Or.inl ⟨by rfl, ?_⟩) ?_ ?_
                        rotate_left
                        · intro w'
                          go_simp
                          with_reducible rfl
                        rotate_left
                        · simp only [Act.put, List.setIfInBounds_toArray, List.set_cons_zero, List.set_cons_succ, i64_w, i32_w]
                          rfl
                        exact norm_ (by simp only [putAll, Act.put, List.setIfInBounds_toArray, List.set_cons_zero, List.set_cons_succ]) (hCont (gb205) _ ⟨hHeld, (by (with_reducible repeat (first | apply Kd.R_alloc | apply Kd.R_drewN | apply Kd.R_drew)); exact HO_198002.out), (by (with_reducible repeat (first | apply Kd.R_alloc | apply Kd.R_drewN | apply Kd.R_drew)); exact HO_9.out), (by (with_reducible repeat (first | refine blk_drewN ?_ _ | refine blk_drew ?_ | refine blk_alloc ?_ _)); exact BK195.out), (by (with_reducible repeat (first | refine blk_drewN ?_ _ | refine blk_drew ?_ | refine blk_alloc ?_ _)); exact BK197.out), (by (with_reducible repeat (first | refine blk_drewN ?_ _ | refine blk_drew ?_ | refine blk_alloc ?_ _)); exact BK205.out), GW205.out, GE205.out, NB195_205.out, NB205_195.out, NB197_205.out, NB205_197.out, (by repeat (first | (with_reducible first | exact HB.out | apply below_alloc | apply pw_below_drewN | apply below_drew1 | refine below_set ?_ GE195.out | refine below_set ?_ GE197.out | refine below_set ?_ GE205.out) | exact HB.out))⟩)
                    rintro gb205 w25 ⟨hS_, h0_, h1_, h2_, h3_, h4_, h5_, h6_, h7_, h8_, h9_, h10_, h11_⟩
                    have n0_ : Aside0 (Kd.R k59 59 w25 w.heap.size (fun _ => True) u198002 x198002_2) := ⟨h0_⟩
                    have n1_ : Aside0 (Kd.R (Kd.int .i64) 3 w25 w.heap.size (fun _ => True) (.slice (some ad201) t198.length co21) t198) := ⟨h1_⟩
                    have n2_ : Aside0 (w25.heap[gb195]? = some (.cells #[.string a0_0, .int .i64 a0_1, .int .i64 a0_2, .int .u64 a0_3] 63 (0, 0))) := ⟨h2_⟩
                    have n3_ : Aside0 (w25.heap[gb197]? = some (.cells #[.int .i64 a0_1, .int .i64 0, u198002] 48 (0, 0))) := ⟨h3_⟩
                    have n4_ : Aside0 (w25.heap[gb205]? = some (.cells #[.int .i64 0, .int .i64 0, .slice none 0 0, .slice none 0 0, .int .i64 0, .int .i64 0] 38 (0, 0))) := ⟨h4_⟩
                    have n5_ : Aside0 (w.heap.size ≤ gb205) := ⟨h5_⟩
                    have n6_ : Aside0 (w.heap.size ≤ gb205) := ⟨h6_⟩
                    have n7_ : Aside0 (gb195 ≠ gb205) := ⟨h7_⟩
                    have n8_ : Aside0 (gb205 ≠ gb195) := ⟨h8_⟩
                    have n9_ : Aside0 (gb197 ≠ gb205) := ⟨h9_⟩
                    have n10_ : Aside0 (gb205 ≠ gb197) := ⟨h10_⟩
                    have n11_ : Aside0 (Below w.heap.size w w25) := ⟨h11_⟩
                    clear HO_9
                    clear HO_198002
                    clear BK195
                    clear BK197
                    clear HB
                    clear h0_ h1_ h2_ h3_ h4_ h5_ h6_ h7_ h8_ h9_ h10_ h11_
                    have HO_198002 := n0_
                    have HO_9 := n1_
                    have BK195 := n2_
                    have BK197 := n3_
                    have BK205 := n4_
                    have GW205 := n5_
                    have GE205 := n6_
                    have NB195_205 := n7_
                    have NB205_195 := n8_
                    have NB197_205 := n9_
                    have NB205_197 := n10_
                    have HB := n11_
                    clear n0_ n1_ n2_ n3_ n4_ n5_ n6_ n7_ n8_ n9_ n10_ n11_
                    have hHeld : w25.cell? (ad201.add (x10_2).toNat) = some (.int .i64 (rd t198 x10_2)) ∧ w25.cell? (ad201.add (x10_2).toNat) = some (.int .i64 (rd t198 x10_2)) := hS_
                    refine norm_ (a' := ?_) ?_ ?_
                    rotate_left
                    · simp only [putAll, Act.put, List.setIfInBounds_toArray, List.set_cons_zero, List.set_cons_succ]
                      rfl
                    refine one_ (i := 16) (N := none) #[true, true, true, true, true, true, true, true, true, true, true, true, true, true, true, true, true] rfl rfl (one_of HT_.out (by kernel_rfl)) (by decide) (fun K hK => ?_)
                    have hs26 : w25.cell? ⟨gb205, 0, none⟩ = some (.int .i64 0) := (blk_cell BK205.out 0).trans rfl
                    have hfs26 := blk_frozen BK205.out 0
                    have hns26_0 := NB195_205.out
                    have hns26_1 := NB197_205.out
                    have hms26_0 := NB205_195.out
                    have hms26_1 := NB205_197.out
                    have hs27 : w25.cell? ⟨gb205, 1, none⟩ = some (.int .i64 0) := (blk_cell BK205.out 1).trans rfl
                    have hfs27 := blk_frozen BK205.out 1
                    have hns27_0 := NB195_205.out
                    have hns27_1 := NB197_205.out
                    have hms27_0 := NB205_195.out
                    have hms27_1 := NB205_197.out
                    have hs28 : w25.cell? ⟨gb205, 2, none⟩ = some (.slice none 0 0) := (blk_cell BK205.out 2).trans rfl
                    have hfs28 := blk_frozen BK205.out 2
                    have hns28_0 := NB195_205.out
                    have hns28_1 := NB197_205.out
                    have hms28_0 := NB205_195.out
                    have hms28_1 := NB205_197.out
                    have hs29 : w25.cell? ⟨gb205, 3, none⟩ = some (.slice none 0 0) := (blk_cell BK205.out 3).trans rfl
                    have hfs29 := blk_frozen BK205.out 3
                    have hns29_0 := NB195_205.out
                    have hns29_1 := NB197_205.out
                    have hms29_0 := NB205_195.out
                    have hms29_1 := NB205_197.out
                    have hs30 : w25.cell? ⟨gb205, 4, none⟩ = some (.int .i64 0) := (blk_cell BK205.out 4).trans rfl
                    have hfs30 := blk_frozen BK205.out 4
                    have hns30_0 := NB195_205.out
                    have hns30_1 := NB197_205.out
                    have hms30_0 := NB205_195.out
                    have hms30_1 := NB205_197.out
                    have hs31 : w25.cell? ⟨gb205, 5, none⟩ = some (.int .i64 0) := (blk_cell BK205.out 5).trans rfl
                    have hfs31 := blk_frozen BK205.out 5
                    have hns31_0 := NB195_205.out
                    have hns31_1 := NB197_205.out
                    have hms31_0 := NB205_195.out
                    have hms31_1 := NB205_197.out
                    refine skip_ (w1 := ?_) (by rfl) rfl ?_ ?_
                    rotate_left
                    · go_simp
                      rfl
                    refine hK.out _ _ ⟨((cell_far (p := ⟨gb205, _, none⟩) (by first | exact Kd.own_blk (Kd.R_ne HO_9.out BK205.out (by decide)) | (rw [add_block]; exact Kd.own_blk (Kd.R_ne HO_9.out BK205.out (by decide))) | (show (Addr.add _ _).block ≠ _; rw [add_block]; exact Kd.own_blk (Kd.R_ne HO_9.out BK205.out (by decide))) | (dsimp only; exact Kd.own_blk (Kd.R_ne HO_9.out BK205.out (by decide)))) _).trans (((cell_far (p := ⟨gb205, _, none⟩) (by first | exact Kd.own_blk (Kd.R_ne HO_9.out BK205.out (by decide)) | (rw [add_block]; exact Kd.own_blk (Kd.R_ne HO_9.out BK205.out (by decide))) | (show (Addr.add _ _).block ≠ _; rw [add_block]; exact Kd.own_blk (Kd.R_ne HO_9.out BK205.out (by decide))) | (dsimp only; exact Kd.own_blk (Kd.R_ne HO_9.out BK205.out (by decide)))) _).trans (((cell_far (p := ⟨gb205, _, none⟩) (by first | exact Kd.own_blk (Kd.R_ne HO_9.out BK205.out (by decide)) | (rw [add_block]; exact Kd.own_blk (Kd.R_ne HO_9.out BK205.out (by decide))) | (show (Addr.add _ _).block ≠ _; rw [add_block]; exact Kd.own_blk (Kd.R_ne HO_9.out BK205.out (by decide))) | (dsimp only; exact Kd.own_blk (Kd.R_ne HO_9.out BK205.out (by decide)))) _).trans (((cell_far (p := ⟨gb205, _, none⟩) (by first | exact Kd.own_blk (Kd.R_ne HO_9.out BK205.out (by decide)) | (rw [add_block]; exact Kd.own_blk (Kd.R_ne HO_9.out BK205.out (by decide))) | (show (Addr.add _ _).block ≠ _; rw [add_block]; exact Kd.own_blk (Kd.R_ne HO_9.out BK205.out (by decide))) | (dsimp only; exact Kd.own_blk (Kd.R_ne HO_9.out BK205.out (by decide)))) _).trans (((cell_far (p := ⟨gb205, _, none⟩) (by first | exact Kd.own_blk (Kd.R_ne HO_9.out BK205.out (by decide)) | (rw [add_block]; exact Kd.own_blk (Kd.R_ne HO_9.out BK205.out (by decide))) | (show (Addr.add _ _).block ≠ _; rw [add_block]; exact Kd.own_blk (Kd.R_ne HO_9.out BK205.out (by decide))) | (dsimp only; exact Kd.own_blk (Kd.R_ne HO_9.out BK205.out (by decide)))) _).trans (((cell_far (p := ⟨gb205, _, none⟩) (by first | exact Kd.own_blk (Kd.R_ne HO_9.out BK205.out (by decide)) | (rw [add_block]; exact Kd.own_blk (Kd.R_ne HO_9.out BK205.out (by decide))) | (show (Addr.add _ _).block ≠ _; rw [add_block]; exact Kd.own_blk (Kd.R_ne HO_9.out BK205.out (by decide))) | (dsimp only; exact Kd.own_blk (Kd.R_ne HO_9.out BK205.out (by decide)))) _).trans (hHeld.1)))))))))))), ((cell_far (p := ⟨gb205, _, none⟩) (by first | exact Kd.own_blk (Kd.R_ne HO_9.out BK205.out (by decide)) | (rw [add_block]; exact Kd.own_blk (Kd.R_ne HO_9.out BK205.out (by decide))) | (show (Addr.add _ _).block ≠ _; rw [add_block]; exact Kd.own_blk (Kd.R_ne HO_9.out BK205.out (by decide))) | (dsimp only; exact Kd.own_blk (Kd.R_ne HO_9.out BK205.out (by decide)))) _).trans (((cell_far (p := ⟨gb205, _, none⟩) (by first | exact Kd.own_blk (Kd.R_ne HO_9.out BK205.out (by decide)) | (rw [add_block]; exact Kd.own_blk (Kd.R_ne HO_9.out BK205.out (by decide))) | (show (Addr.add _ _).block ≠ _; rw [add_block]; exact Kd.own_blk (Kd.R_ne HO_9.out BK205.out (by decide))) | (dsimp only; exact Kd.own_blk (Kd.R_ne HO_9.out BK205.out (by decide)))) _).trans (((cell_far (p := ⟨gb205, _, none⟩) (by first | exact Kd.own_blk (Kd.R_ne HO_9.out BK205.out (by decide)) | (rw [add_block]; exact Kd.own_blk (Kd.R_ne HO_9.out BK205.out (by decide))) | (show (Addr.add _ _).block ≠ _; rw [add_block]; exact Kd.own_blk (Kd.R_ne HO_9.out BK205.out (by decide))) | (dsimp only; exact Kd.own_blk (Kd.R_ne HO_9.out BK205.out (by decide)))) _).trans (((cell_far (p := ⟨gb205, _, none⟩) (by first | exact Kd.own_blk (Kd.R_ne HO_9.out BK205.out (by decide)) | (rw [add_block]; exact Kd.own_blk (Kd.R_ne HO_9.out BK205.out (by decide))) | (show (Addr.add _ _).block ≠ _; rw [add_block]; exact Kd.own_blk (Kd.R_ne HO_9.out BK205.out (by decide))) | (dsimp only; exact Kd.own_blk (Kd.R_ne HO_9.out BK205.out (by decide)))) _).trans (((cell_far (p := ⟨gb205, _, none⟩) (by first | exact Kd.own_blk (Kd.R_ne HO_9.out BK205.out (by decide)) | (rw [add_block]; exact Kd.own_blk (Kd.R_ne HO_9.out BK205.out (by decide))) | (show (Addr.add _ _).block ≠ _; rw [add_block]; exact Kd.own_blk (Kd.R_ne HO_9.out BK205.out (by decide))) | (dsimp only; exact Kd.own_blk (Kd.R_ne HO_9.out BK205.out (by decide)))) _).trans (((cell_far (p := ⟨gb205, _, none⟩) (by first | exact Kd.own_blk (Kd.R_ne HO_9.out BK205.out (by decide)) | (rw [add_block]; exact Kd.own_blk (Kd.R_ne HO_9.out BK205.out (by decide))) | (show (Addr.add _ _).block ≠ _; rw [add_block]; exact Kd.own_blk (Kd.R_ne HO_9.out BK205.out (by decide))) | (dsimp only; exact Kd.own_blk (Kd.R_ne HO_9.out BK205.out (by decide)))) _).trans (hHeld.2))))))))))))⟩ (fun hHeld => ?_)
                    clear hK K
                    refine done_ (done_of HT_.out (by kernel_rfl)) ?_
                    have hnb32 := NB205_195.out
                    have hnc32 := NB195_205.out
                    have hnb33 := NB205_197.out
                    have hnc33 := NB197_205.out
                    have hcz34_0 : w25.cell? ⟨gb205, 0, none⟩ = some (.int .i64 0) := (blk_cell BK205.out 0).trans rfl
                    have hcz34_1 : w25.cell? ⟨gb205, 1, none⟩ = some (.int .i64 0) := (blk_cell BK205.out 1).trans rfl
                    have hcz34_2 : w25.cell? ⟨gb205, 2, none⟩ = some (.slice none 0 0) := (blk_cell BK205.out 2).trans rfl
                    have hcz34_3 : w25.cell? ⟨gb205, 3, none⟩ = some (.slice none 0 0) := (blk_cell BK205.out 3).trans rfl
                    have hcz34_4 : w25.cell? ⟨gb205, 4, none⟩ = some (.int .i64 0) := (blk_cell BK205.out 4).trans rfl
                    have hcz34_5 : w25.cell? ⟨gb205, 5, none⟩ = some (.int .i64 0) := (blk_cell BK205.out 5).trans rfl
                    have hfz34_0 := blk_frozen BK205.out 0
                    have hfz34_1 := blk_frozen BK205.out 1
                    have hfz34_2 := blk_frozen BK205.out 2
                    have hfz34_3 := blk_frozen BK205.out 3
                    have hfz34_4 := blk_frozen BK205.out 4
                    have hfz34_5 := blk_frozen BK205.out 5
                    try go_wp2_with (first | ((with_reducible refine gate_callee (f := 25) rfl ?_); refine goesL_ (some 63) rfl rfl Try.func25 (by kernel_rfl) rfl #[.string a0_0, .int .i64 a0_1, .agg #[.int .i64 (rd t198 x10_2), .int .i64 (wrap64 (3 * a0_2)), .slice none 0 0, .slice none 0 0, .int .i64 t203, .int .i64 t204]] rfl (by (try simp only [List.map_toArray, List.map_cons, List.map_nil]); first | done | rfl | (simp only [List.length_drop, List.length_take]; rfl)) ?_; (refine (coin_Fits.calls a0_0 a0_1 (rd t198 x10_2) (wrap64 (3 * a0_2)) _ _ ([] : List (S193)) _ _ ([] : List ByteArray) t203 t204 true _ ?side1 ?side2 ?side3 ?side4 A18.out).mono ?_); (case side1 => exact Kd.C_nil _ _); (case side2 => exact Nat.le_refl _); (case side3 => exact Kd.C_nil _ _); (case side4 => exact Nat.le_refl _); rintro e w35 ⟨rfl, hb⟩; refine ⟨_, rfl, ?_⟩; have n0_ := Aside0.mk (Kd.R_below (by (with_reducible repeat (first | apply Kd.R_alloc | apply Kd.R_drewN | apply Kd.R_drew)); exact (Kd.R_mono (Kd.R_far (p := ⟨gb205, 5, none⟩) (Kd.R_far (p := ⟨gb205, 4, none⟩) (Kd.R_far (p := ⟨gb205, 3, none⟩) (Kd.R_far (p := ⟨gb205, 2, none⟩) (Kd.R_far (p := ⟨gb205, 1, none⟩) (Kd.R_far (p := ⟨gb205, 0, none⟩) (Kd.R_types HO_9.out BK205.out (by decide)) (fun _ hk => hk.2) (.int .i64 (rd t198 x10_2))) (fun _ hk => hk.2) (.int .i64 (wrap64 (3 * a0_2)))) (fun _ hk => hk.2) (.slice none 0 0)) (fun _ hk => hk.2) (.slice none 0 0)) (fun _ hk => hk.2) (.int .i64 t203)) (fun _ hk => hk.2) (.int .i64 t204)) (fun _ h_ => h_.1))) hb); have n1_ := Aside0.mk (Kd.R_below (by (with_reducible repeat (first | apply Kd.R_alloc | apply Kd.R_drewN | apply Kd.R_drew)); exact (Kd.R_mono (Kd.R_far (p := ⟨gb205, 5, none⟩) (Kd.R_far (p := ⟨gb205, 4, none⟩) (Kd.R_far (p := ⟨gb205, 3, none⟩) (Kd.R_far (p := ⟨gb205, 2, none⟩) (Kd.R_far (p := ⟨gb205, 1, none⟩) (Kd.R_far (p := ⟨gb205, 0, none⟩) (Kd.R_types HO_198002.out BK205.out (by decide)) (fun _ hk => hk.2) (.int .i64 (rd t198 x10_2))) (fun _ hk => hk.2) (.int .i64 (wrap64 (3 * a0_2)))) (fun _ hk => hk.2) (.slice none 0 0)) (fun _ hk => hk.2) (.slice none 0 0)) (fun _ hk => hk.2) (.int .i64 t203)) (fun _ hk => hk.2) (.int .i64 t204)) (fun _ h_ => h_.1))) hb); have n2_ := Aside0.mk (blk_below (g := gb195) (o := .cells #[.string a0_0, .int .i64 a0_1, .int .i64 a0_2, .int .u64 a0_3] 63 (0, 0)) (by (with_reducible repeat (first | refine blk_drewN ?_ _ | refine blk_drew ?_ | refine blk_alloc ?_ _)); refine blk_far ?_ NB195_205.out _; (with_reducible repeat (first | refine blk_drewN ?_ _ | refine blk_drew ?_ | refine blk_alloc ?_ _)); refine blk_far ?_ NB195_205.out _; (with_reducible repeat (first | refine blk_drewN ?_ _ | refine blk_drew ?_ | refine blk_alloc ?_ _)); refine blk_far ?_ NB195_205.out _; (with_reducible repeat (first | refine blk_drewN ?_ _ | refine blk_drew ?_ | refine blk_alloc ?_ _)); refine blk_far ?_ NB195_205.out _; (with_reducible repeat (first | refine blk_drewN ?_ _ | refine blk_drew ?_ | refine blk_alloc ?_ _)); refine blk_far ?_ NB195_205.out _; (with_reducible repeat (first | refine blk_drewN ?_ _ | refine blk_drew ?_ | refine blk_alloc ?_ _)); refine blk_far ?_ NB195_205.out _; (with_reducible repeat (first | refine blk_drewN ?_ _ | refine blk_drew ?_ | refine blk_alloc ?_ _)); exact BK195.out) hb); have n3_ := Aside0.mk (blk_below (g := gb197) (o := .cells #[.int .i64 a0_1, .int .i64 0, u198002] 48 (0, 0)) (by (with_reducible repeat (first | refine blk_drewN ?_ _ | refine blk_drew ?_ | refine blk_alloc ?_ _)); refine blk_far ?_ NB197_205.out _; (with_reducible repeat (first | refine blk_drewN ?_ _ | refine blk_drew ?_ | refine blk_alloc ?_ _)); refine blk_far ?_ NB197_205.out _; (with_reducible repeat (first | refine blk_drewN ?_ _ | refine blk_drew ?_ | refine blk_alloc ?_ _)); refine blk_far ?_ NB197_205.out _; (with_reducible repeat (first | refine blk_drewN ?_ _ | refine blk_drew ?_ | refine blk_alloc ?_ _)); refine blk_far ?_ NB197_205.out _; (with_reducible repeat (first | refine blk_drewN ?_ _ | refine blk_drew ?_ | refine blk_alloc ?_ _)); refine blk_far ?_ NB197_205.out _; (with_reducible repeat (first | refine blk_drewN ?_ _ | refine blk_drew ?_ | refine blk_alloc ?_ _)); refine blk_far ?_ NB197_205.out _; (with_reducible repeat (first | refine blk_drewN ?_ _ | refine blk_drew ?_ | refine blk_alloc ?_ _)); exact BK197.out) hb); have n4_ := Aside0.mk (blk_below (g := gb205) (o := .cells #[.int .i64 (rd t198 x10_2), .int .i64 (wrap64 (3 * a0_2)), .slice none 0 0, .slice none 0 0, .int .i64 t203, .int .i64 t204] 38 (0, 0)) (by (with_reducible repeat (first | refine blk_drewN ?_ _ | refine blk_drew ?_ | refine blk_alloc ?_ _)); refine blk_put (cs := #[.int .i64 (rd t198 x10_2), .int .i64 (wrap64 (3 * a0_2)), .slice none 0 0, .slice none 0 0, .int .i64 t203, .int .i64 0]) ?_ 5 _ rfl; (with_reducible repeat (first | refine blk_drewN ?_ _ | refine blk_drew ?_ | refine blk_alloc ?_ _)); refine blk_put (cs := #[.int .i64 (rd t198 x10_2), .int .i64 (wrap64 (3 * a0_2)), .slice none 0 0, .slice none 0 0, .int .i64 0, .int .i64 0]) ?_ 4 _ rfl; (with_reducible repeat (first | refine blk_drewN ?_ _ | refine blk_drew ?_ | refine blk_alloc ?_ _)); refine blk_put (cs := #[.int .i64 (rd t198 x10_2), .int .i64 (wrap64 (3 * a0_2)), .slice none 0 0, .slice none 0 0, .int .i64 0, .int .i64 0]) ?_ 3 _ rfl; (with_reducible repeat (first | refine blk_drewN ?_ _ | refine blk_drew ?_ | refine blk_alloc ?_ _)); refine blk_put (cs := #[.int .i64 (rd t198 x10_2), .int .i64 (wrap64 (3 * a0_2)), .slice none 0 0, .slice none 0 0, .int .i64 0, .int .i64 0]) ?_ 2 _ rfl; (with_reducible repeat (first | refine blk_drewN ?_ _ | refine blk_drew ?_ | refine blk_alloc ?_ _)); refine blk_put (cs := #[.int .i64 (rd t198 x10_2), .int .i64 0, .slice none 0 0, .slice none 0 0, .int .i64 0, .int .i64 0]) ?_ 1 _ rfl; (with_reducible repeat (first | refine blk_drewN ?_ _ | refine blk_drew ?_ | refine blk_alloc ?_ _)); refine blk_put (cs := #[.int .i64 0, .int .i64 0, .slice none 0 0, .slice none 0 0, .int .i64 0, .int .i64 0]) ?_ 0 _ rfl; (with_reducible repeat (first | refine blk_drewN ?_ _ | refine blk_drew ?_ | refine blk_alloc ?_ _)); exact BK205.out) hb); have n5_ := Aside0.mk (below_step (by repeat (first | (with_reducible first | exact HB.out | apply below_alloc | apply pw_below_drewN | apply below_drew1 | refine below_set ?_ GE195.out | refine below_set ?_ GE197.out | refine below_set ?_ GE205.out) | exact HB.out)) hb); clear HO_9; clear HO_198002; clear BK195; clear BK197; clear BK205; clear HB; have HO_9 := n0_; have HO_198002 := n1_; have BK195 := n2_; have BK197 := n3_; have BK205 := n4_; have HB := n5_; clear n0_ n1_ n2_ n3_ n4_ n5_; (try clear hb); (try clear hb2); (try clear hk); (try clear hi); have hnb36 := NB197_195.out; have hnc36 := NB195_197.out; have hcz37_0 : w35.cell? ⟨gb197, 0, none⟩ = some (.int .i64 a0_1) := (blk_cell BK197.out 0).trans rfl; have hcz37_1 : w35.cell? ⟨gb197, 1, none⟩ = some (.int .i64 0) := (blk_cell BK197.out 1).trans rfl; have hcz37_2 : w35.cell? ⟨gb197, 2, none⟩ = some (u198002) := (blk_cell BK197.out 2).trans rfl; have hfz37_0 := blk_frozen BK197.out 0; have hfz37_1 := blk_frozen BK197.out 1; have hfz37_2 := blk_frozen BK197.out 2; have hcz38_0 : w35.cell? ⟨gb205, 0, none⟩ = some (.int .i64 (rd t198 x10_2)) := (blk_cell BK205.out 0).trans rfl; have hcz38_1 : w35.cell? ⟨gb205, 1, none⟩ = some (.int .i64 (wrap64 (3 * a0_2))) := (blk_cell BK205.out 1).trans rfl; have hcz38_2 : w35.cell? ⟨gb205, 2, none⟩ = some (.slice none 0 0) := (blk_cell BK205.out 2).trans rfl; have hcz38_3 : w35.cell? ⟨gb205, 3, none⟩ = some (.slice none 0 0) := (blk_cell BK205.out 3).trans rfl; have hcz38_4 : w35.cell? ⟨gb205, 4, none⟩ = some (.int .i64 t203) := (blk_cell BK205.out 4).trans rfl; have hcz38_5 : w35.cell? ⟨gb205, 5, none⟩ = some (.int .i64 t204) := (blk_cell BK205.out 5).trans rfl; have hfz38_0 := blk_frozen BK205.out 0; have hfz38_1 := blk_frozen BK205.out 1; have hfz38_2 := blk_frozen BK205.out 2; have hfz38_3 := blk_frozen BK205.out 3; have hfz38_4 := blk_frozen BK205.out 4; have hfz38_5 := blk_frozen BK205.out 5) | ((with_reducible refine gate_builtin (b := .append) (xs := #[.tmp 66, .tmp 69]) rfl ?_); at_builtin; refine Kd.R_append k59 (w0 := w) w.heap.size rfl (.tmp 66) (.tmp 69) 46 59 (.agg #[(.string ⟨#[]⟩), (.int .i64 0), (.int .i64 0), (.slice none 0 0), (.slice none 0 0), (.int .i64 0), (.int .i64 0)]) 96 rfl Try.underlying46 info59 rfl (by decide) (by omega) u198002 x198002_2 (⟨(⟨#[]⟩ : ByteArray), (⟨rd t198 x10_2, wrap64 (3 * a0_2), ([] : List (S193)), ([] : List ByteArray), (⟨t203, t204⟩ : S23)⟩ : S38)⟩ : S59) [.string (⟨#[]⟩ : ByteArray), .int .i64 (rd t198 x10_2), .int .i64 (wrap64 (3 * a0_2)), .slice none 0 0, .slice none 0 0, .int .i64 t203, .int .i64 t204] (fun _ => True) (fun k_ => ((fun _ => True)) k_ ∧ some k_ ≠ (u198002 : Value).ownBlock) rfl rfl ?aP (fun _ hk => hk) ?aF ?aO ?aB ?aS ?aL ?_; (case aP => exact k59_mkM _ _ _ (⟨(⟨#[]⟩ : ByteArray), (⟨rd t198 x10_2, wrap64 (3 * a0_2), ([] : List (S193)), ([] : List ByteArray), (⟨t203, t204⟩ : S23)⟩ : S38)⟩ : S59) (Kd.R_nil _ _ _ _ _) (Kd.R_nil _ _ _ _ _)); (case aB => exact (by repeat (first | (with_reducible first | exact HB.out | apply below_alloc | apply pw_below_drewN | apply below_drew1 | refine below_set ?_ GE195.out | refine below_set ?_ GE197.out | refine below_set ?_ GE205.out) | exact HB.out))); (case aF => exact (fun _ _ => trivial)); (case aO => exact (by (with_reducible repeat (first | apply Kd.R_alloc | apply Kd.R_drewN | apply Kd.R_drew)); exact HO_198002.out)); (case aS => exact (below_size (by repeat (first | (with_reducible first | exact HB.out | apply below_alloc | apply pw_below_drewN | apply below_drew1 | refine below_set ?_ GE195.out | refine below_set ?_ GE197.out | refine below_set ?_ GE205.out) | exact HB.out)))); (case aL => have := LMc20.out; omega); intro v208 w39 ho hb hg hat; rw [← Ny207.out] at ho; have n0_ := Aside0.mk (Kd.R_over' (by (with_reducible repeat (first | apply Kd.R_alloc | apply Kd.R_drewN | apply Kd.R_drew)); exact HO_9.out) (Kd.R_typed (by (with_reducible repeat (first | apply Kd.R_alloc | apply Kd.R_drewN | apply Kd.R_drew)); exact HO_198002.out)) (by decide) hg); have n1_ := Aside0.mk (blk_grown (g := gb195) (o := .cells #[.string a0_0, .int .i64 a0_1, .int .i64 a0_2, .int .u64 a0_3] 63 (0, 0)) (by (with_reducible repeat (first | refine blk_drewN ?_ _ | refine blk_drew ?_ | refine blk_alloc ?_ _)); exact BK195.out) hg (Kd.R_ne HO_198002.out BK195.out (by decide))); have n2_ := Aside0.mk (blk_grown (g := gb197) (o := .cells #[.int .i64 a0_1, .int .i64 0, u198002] 48 (0, 0)) (by (with_reducible repeat (first | refine blk_drewN ?_ _ | refine blk_drew ?_ | refine blk_alloc ?_ _)); exact BK197.out) hg (Kd.R_ne HO_198002.out BK197.out (by decide))); have n3_ := Aside0.mk (blk_grown (g := gb205) (o := .cells #[.int .i64 (rd t198 x10_2), .int .i64 (wrap64 (3 * a0_2)), .slice none 0 0, .slice none 0 0, .int .i64 t203, .int .i64 t204] 38 (0, 0)) (by (with_reducible repeat (first | refine blk_drewN ?_ _ | refine blk_drew ?_ | refine blk_alloc ?_ _)); exact BK205.out) hg (Kd.R_ne HO_198002.out BK205.out (by decide))); have n4_ := Aside0.mk (hb); have n5_ := Aside0.mk (ho); clear HO_9; clear BK195; clear BK197; clear BK205; clear HB; clear HO_198002; have HO_9 := n0_; have BK195 := n1_; have BK197 := n2_; have BK205 := n3_; have HB := n4_; have HO209 := n5_; clear n0_ n1_ n2_ n3_ n4_ n5_; clear ho hb hg hat; obtain ⟨Ao40, co40, eo40⟩ := Kd.R_slice HO209.out; subst eo40; have hcz41_0 : w39.cell? ⟨gb197, 0, none⟩ = some (.int .i64 a0_1) := (blk_cell BK197.out 0).trans rfl; have hcz41_1 : w39.cell? ⟨gb197, 1, none⟩ = some (.int .i64 0) := (blk_cell BK197.out 1).trans rfl; have hcz41_2 : w39.cell? ⟨gb197, 2, none⟩ = some (u198002) := (blk_cell BK197.out 2).trans rfl; have hfz41_0 := blk_frozen BK197.out 0; have hfz41_1 := blk_frozen BK197.out 1; have hfz41_2 := blk_frozen BK197.out 2))
                    go_roundg k2
                    case measure => have := HJ2.out; have := HK2.out; omega
                    case rel => exact ⟨(wrap64 (x10_2 + 1)), (y207), (.slice Ao40 y207.length co40), (by first | rfl | (simp; done) | (simp [*]; done)), H', ⟨by have := HJ2.out; have := HK2.out; omega⟩, ⟨by (with_reducible repeat (first | apply Kd.R_alloc | apply Kd.R_drewN | apply Kd.R_drew)); exact Kd.R_mono (Kd.R_far (p := ⟨gb197, 2, none⟩) (Kd.R_types HO_9.out BK197.out (by decide)) (fun _ hk => hk.2) (.slice Ao40 y207.length co40)) (fun _ hk => trivial)⟩, ⟨by (with_reducible repeat (first | apply Kd.R_alloc | apply Kd.R_drewN | apply Kd.R_drew)); exact Kd.R_mono (Kd.R_far (p := ⟨gb197, 2, none⟩) (Kd.R_types HO209.out BK197.out (by decide)) (fun _ hk => hk.2) (.slice Ao40 y207.length co40)) (fun _ hk => trivial)⟩, ⟨by (with_reducible repeat (first | refine blk_drewN ?_ _ | refine blk_drew ?_ | refine blk_alloc ?_ _)); refine blk_far ?_ NB195_197.out _; (with_reducible repeat (first | refine blk_drewN ?_ _ | refine blk_drew ?_ | refine blk_alloc ?_ _)); exact BK195.out⟩, ⟨by (with_reducible repeat (first | refine blk_drewN ?_ _ | refine blk_drew ?_ | refine blk_alloc ?_ _)); refine blk_put (cs := #[.int .i64 a0_1, .int .i64 0, u198002]) ?_ 2 _ rfl; (with_reducible repeat (first | refine blk_drewN ?_ _ | refine blk_drew ?_ | refine blk_alloc ?_ _)); exact BK197.out⟩, ⟨by repeat (first | (with_reducible first | exact HB.out | apply below_alloc | apply pw_below_drewN | apply below_drew1 | refine below_set ?_ GE195.out | refine below_set ?_ GE197.out | refine below_set ?_ GE205.out) | exact HB.out)⟩⟩
                  · rw [if_neg c20] at H
                    exact absurd H (by simp)
                · replace c19 := Bool.eq_false_iff.mpr c19
                  subst c19
                  have H1 : (some false) = some r := by rw [if_neg (show ¬ (false = true) by decide)] at H; exact H
                  clear H
                  have H := H1
                  clear H1
                  obtain rfl := Option.some.inj H
                  obtain ⟨Ao42, co42, eo42⟩ := Kd.R_slice HO_9.out
                  subst eo42
                  try go_wp2
                  have n0_ := Aside0.mk (Kd.R_drew HO_9.out)
                  have n1_ := Aside0.mk (Kd.R_drew HO_198002.out)
                  have n2_ := Aside0.mk (blk_drew BK195.out)
                  have n3_ := Aside0.mk (blk_drew BK197.out)
                  have n4_ := Aside0.mk (below_drew1 HB.out)
                  clear HO_9
                  clear HO_198002
                  clear BK195
                  clear BK197
                  clear HB
                  have HO_9 := n0_
                  have HO_198002 := n1_
                  have BK195 := n2_
                  have BK197 := n3_
                  have HB := n4_
                  clear n0_ n1_ n2_ n3_ n4_
                  have p201 : 0 ≤ (x10_2 : Int) := of_decide_eq_true (by first | (with_reducible assumption) | assumption)
                  have q201 : x10_2 < (t198.length : Int) := of_decide_eq_true (by first | (with_reducible assumption) | assumption)
                  obtain ⟨ad201, e201, hx201_0⟩ := Kd.at_int (Kd.R_reads' HO_9.out).2.2 x10_2 p201 q201
                  cases e201
                  replace p201 := eq_true p201
                  replace q201 := eq_true q201
                  have p202 : 0 ≤ (x10_2 : Int) := of_decide_eq_true (by first | (with_reducible assumption) | assumption)
                  have q202 : x10_2 < (t198.length : Int) := of_decide_eq_true (by first | (with_reducible assumption) | assumption)
                  obtain ⟨ad202, e202, hx202_0⟩ := Kd.at_int (Kd.R_reads' HO_9.out).2.2 x10_2 p202 q202
                  obtain rfl : ad201 = ad202 := (by injection e202)
                  replace p202 := eq_true p202
                  replace q202 := eq_true q202
                  refine start_ (n := 17) (S := fun w' => w'.cell? (ad201.add (x10_2).toNat) = some (.int .i64 (rd t198 x10_2)) ∧ w'.cell? (ad201.add (x10_2).toNat) = some (.int .i64 (rd t198 x10_2))) (ds := []) #[false, false, false, false, false, false, false, false, false, false, false, false, false, false, false, false, false] (by kernel_rfl) rfl rfl ⟨hx201_0, hx202_0⟩ (fun hHeld => ?_); refine with_tabW selvedgelaw12_CoinOne.tab13 selvedgelaw12_CoinOne.bits13 (fun HT_ HW_ => ?_)
                  generalize wr.drew = w43 at HO_9 HO_198002 BK195 BK197 HB hx201_0 hx202_0 hHeld ⊢
                  refine pure_ (i := 0) (N := some 45) (v := ?_) (a' := ?_) #[true, false, false, false, false, false, false, false, false, false, false, false, false, false, false, false, false] rfl rfl (any_of HT_.out (by kernel_rfl)) (fun _ _ _ h => h) (Or.inl ⟨by rfl, ?_⟩) ?_ ?_
                  rotate_left
                  · intro w'
                    go_simp
                    with_reducible rfl
                  rotate_left
                  · simp only [Act.put, List.setIfInBounds_toArray, List.set_cons_zero, List.set_cons_succ, i64_w, i32_w]
                    rfl
                  refine pure_ (i := 1) (N := some 46) (v := ?_) (a' := ?_) #[true, true, false, false, false, false, false, false, false, false, false, false, false, false, false, false, false] rfl rfl (any_of HT_.out (by kernel_rfl)) (fun _ _ _ h => h) (Or.inl ⟨by rfl, ?_⟩) ?_ ?_
                  rotate_left
                  · intro w'
                    go_simp
                    with_reducible rfl
                  rotate_left
                  · simp only [Act.put, List.setIfInBounds_toArray, List.set_cons_zero, List.set_cons_succ, i64_w, i32_w]
                    rfl
                  refine pure_ (i := 2) (N := some 47) (v := ?_) (a' := ?_) #[true, true, true, false, false, false, false, false, false, false, false, false, false, false, false, false, false] rfl rfl (any_of HT_.out (by kernel_rfl)) (fun _ _ _ h => h) (Or.inl ⟨by rfl, ?_⟩) ?_ ?_
                  rotate_left
                  · intro w'
                    go_simp
                    with_reducible rfl
                  rotate_left
                  · simp only [Act.put, List.setIfInBounds_toArray, List.set_cons_zero, List.set_cons_succ, i64_w, i32_w]
                    rfl
                  refine pure_ (i := 4) (N := some 49) (v := ?_) (a' := ?_) #[true, true, true, false, true, false, false, false, false, false, false, false, false, false, false, false, false] rfl rfl (any_of HT_.out (by kernel_rfl)) (fun _ _ _ h => h) (Or.inl ⟨by rfl, ?_⟩) ?_ ?_
                  rotate_left
                  · intro w'
                    go_simp
                    with_reducible rfl
                  rotate_left
                  · simp only [Act.put, List.setIfInBounds_toArray, List.set_cons_zero, List.set_cons_succ, i64_w, i32_w]
                    rfl
                  refine pure_ (i := 5) (N := some 50) (v := ?_) (a' := ?_) #[true, true, true, false, true, true, false, false, false, false, false, false, false, false, false, false, false] rfl rfl (any_of HT_.out (by kernel_rfl)) (fun _ _ _ h => h) (Or.inl ⟨by rfl, ?_⟩) ?_ ?_
                  rotate_left
                  · intro w'
                    go_simp
                    with_reducible rfl
                  rotate_left
                  · simp only [Act.put, List.setIfInBounds_toArray, List.set_cons_zero, List.set_cons_succ, i64_w, i32_w]
                    rfl
                  refine pure_ (i := 6) (N := some 51) (v := ?_) (a' := ?_) #[true, true, true, false, true, true, true, false, false, false, false, false, false, false, false, false, false] rfl rfl (any_of HT_.out (by kernel_rfl)) (fun _ _ _ h => h) (Or.inl ⟨by rfl, ?_⟩) ?_ ?_
                  rotate_left
                  · intro w'
                    go_simp
                    with_reducible rfl
                  rotate_left
                  · simp only [Act.put, List.setIfInBounds_toArray, List.set_cons_zero, List.set_cons_succ, i64_w, i32_w]
                    rfl
                  refine pure_ (i := 7) (N := some 52) (v := ?_) (a' := ?_) #[true, true, true, false, true, true, true, true, false, false, false, false, false, false, false, false, false] rfl rfl (any_of HT_.out (by kernel_rfl)) (fun _ _ _ h => h) (Or.inl ⟨by rfl, ?_⟩) ?_ ?_
                  rotate_left
                  · intro w'
                    go_simp
                    with_reducible rfl
                  rotate_left
                  · simp only [Act.put, List.setIfInBounds_toArray, List.set_cons_zero, List.set_cons_succ, i64_w, i32_w]
                    rfl
                  refine pure_ (i := 8) (N := some 53) (v := ?_) (a' := ?_) #[true, true, true, false, true, true, true, true, true, false, false, false, false, false, false, false, false] rfl rfl (any_of HT_.out (by kernel_rfl)) (fun _ _ _ h => h) (Or.inl ⟨by rfl, ?_⟩) ?_ ?_
                  rotate_left
                  · intro w'
                    go_simp
                    with_reducible rfl
                  rotate_left
                  · simp only [Act.put, List.setIfInBounds_toArray, List.set_cons_zero, List.set_cons_succ, i64_w, i32_w]
                    rfl
                  refine pure_ (i := 9) (N := some 54) (v := ?_) (a' := ?_) #[true, true, true, false, true, true, true, true, true, true, false, false, false, false, false, false, false] rfl rfl (any_of HT_.out (by kernel_rfl)) (fun _ _ _ h => h) (Or.inl ⟨by rfl, ?_⟩) ?_ ?_
                  rotate_left
                  · intro w'
                    go_simp
                    with_reducible rfl
                  rotate_left
                  · simp only [Act.put, List.setIfInBounds_toArray, List.set_cons_zero, List.set_cons_succ, i64_w, i32_w]
                    rfl
                  refine pure_ (i := 10) (N := some 55) (v := ?_) (a' := ?_) #[true, true, true, false, true, true, true, true, true, true, true, false, false, false, false, false, false] rfl rfl (any_of HT_.out (by kernel_rfl)) (fun _ _ _ h => h) (Or.inl ⟨by rfl, ?_⟩) ?_ ?_
                  rotate_left
                  · intro w'
                    go_simp
                    with_reducible rfl
                  rotate_left
                  · simp only [Act.put, List.setIfInBounds_toArray, List.set_cons_zero, List.set_cons_succ, i64_w, i32_w]
                    rfl
                  refine pure_ (i := 11) (N := some 56) (v := ?_) (a' := ?_) #[true, true, true, false, true, true, true, true, true, true, true, true, false, false, false, false, false] rfl rfl (any_of HT_.out (by kernel_rfl)) (fun _ _ _ h => h) (Or.inl ⟨by rfl, ?_⟩) ?_ ?_
                  rotate_left
                  · intro w'
                    go_simp
                    with_reducible rfl
                  rotate_left
                  · simp only [Act.put, List.setIfInBounds_toArray, List.set_cons_zero, List.set_cons_succ, i64_w, i32_w]
                    rfl
                  refine take_ (i := 3) (N := some 48) (v := ?_) (a' := ?_) #[true, true, true, true, true, true, true, true, true, true, true, true, false, false, false, false, false] rfl rfl (take_ofW HT_.out HW_.out (by kernel_rfl)) (fun _ _ _ h => h) (Or.inl ⟨by rfl, ?_⟩) hHeld ?_ ?_
                  rotate_left
                  · rintro w' ⟨s0, s1⟩
                    go_simp
                    with_reducible rfl
                  rotate_left
                  · simp only [Act.put, List.setIfInBounds_toArray, List.set_cons_zero, List.set_cons_succ, i64_w, i32_w]
                    rfl
                  refine take_ (i := 12) (N := some 57) (v := ?_) (a' := ?_) #[true, true, true, true, true, true, true, true, true, true, true, true, true, false, false, false, false] rfl rfl (take_ofW HT_.out HW_.out (by kernel_rfl)) (fun _ _ _ h => h) (Or.inl ⟨by rfl, ?_⟩) hHeld ?_ ?_
                  rotate_left
                  · rintro w' ⟨s0, s1⟩
                    go_simp
                    with_reducible rfl
                  rotate_left
                  · simp only [Act.put, List.setIfInBounds_toArray, List.set_cons_zero, List.set_cons_succ, i64_w, i32_w]
                    rfl
                  refine join_ (σ := Nat) 1 #[true, true, true, true, true, true, true, true, true, true, true, true, true, true, true, true, false] (fun s_ => [(58, .agg #[.int .i64 t203, .int .i64 t204]), (11, .pointer (some ⟨s_, 0, none⟩)), (59, .agg #[.int .i64 (rd t198 x10_2), .int .i64 (wrap64 (3 * a0_2)), .slice none 0 0, .slice none 0 0, .int .i64 t203, .int .i64 t204])]) (fun s_ w' => (w'.cell? (ad201.add (x10_2).toNat) = some (.int .i64 (rd t198 x10_2)) ∧ w'.cell? (ad201.add (x10_2).toNat) = some (.int .i64 (rd t198 x10_2))) ∧ (Kd.R k59 59 w' w.heap.size (fun _ => True) u198002 x198002_2) ∧ (Kd.R (Kd.int .i64) 3 w' w.heap.size (fun _ => True) (.slice (some ad201) t198.length co42) t198) ∧ (w'.heap[gb195]? = some (.cells #[.string a0_0, .int .i64 a0_1, .int .i64 a0_2, .int .u64 a0_3] 63 (0, 0))) ∧ (w'.heap[gb197]? = some (.cells #[.int .i64 a0_1, .int .i64 0, u198002] 48 (0, 0))) ∧ (w'.heap[s_]? = some (.cells #[.int .i64 0, .int .i64 0, .slice none 0 0, .slice none 0 0, .int .i64 0, .int .i64 0] 38 (0, 0))) ∧ (w.heap.size ≤ s_) ∧ (w.heap.size ≤ s_) ∧ (gb195 ≠ s_) ∧ (s_ ≠ gb195) ∧ (gb197 ≠ s_) ∧ (s_ ≠ gb197) ∧ (Below w.heap.size w w')) ?_ ?_
                  rotate_left
                  · intro hCont
                    refine two_ (i := 13) (j := 15) (Ni := some 58) (Nj := some 11) #[true, true, true, true, true, true, true, true, true, true, true, true, true, true, false, false, false] #[true, true, true, true, true, true, true, true, true, true, true, true, true, false, false, true, false] rfl rfl rfl rfl (two_of HT_.out (by kernel_rfl)) (by decide) (by decide) (fun K hK => ?_) (fun K hK => ?_)
                    · skip
                      refine goes_ Try.func23 (by kernel_rfl) rfl #[.string a0_0, .int .i64 a0_2, .int .i64 a0_1, .int .i64 (rd t198 x10_2)] (by rfl) rfl rfl (by (try simp only [List.map_toArray, List.map_cons, List.map_nil]); first | done | rfl | (simp only [List.length_drop, List.length_take]; rfl)) ?_
                      with_reducible refine (coin_Own.calls a0_0 a0_2 a0_1 (rd t198 x10_2) t203 t204 _ A17.out).mono ?_
                      rintro e w44 ⟨rfl, hb⟩
                      have HS0_ := (hb.cell (World.block_lt_of_cell? _ _ (hHeld.1))).trans (hHeld.1)
                      have HS1_ := (hb.cell (World.block_lt_of_cell? _ _ (hHeld.2))).trans (hHeld.2)
                      refine ⟨_, rfl, ?_⟩
                      have n0_ := Aside0.mk (Kd.R_below (by (with_reducible repeat (first | apply Kd.R_alloc | apply Kd.R_drewN | apply Kd.R_drew)); exact HO_9.out) hb)
                      have n1_ := Aside0.mk (Kd.R_below (by (with_reducible repeat (first | apply Kd.R_alloc | apply Kd.R_drewN | apply Kd.R_drew)); exact HO_198002.out) hb)
                      have n2_ := Aside0.mk (blk_below (g := gb195) (o := .cells #[.string a0_0, .int .i64 a0_1, .int .i64 a0_2, .int .u64 a0_3] 63 (0, 0)) (by (with_reducible repeat (first | refine blk_drewN ?_ _ | refine blk_drew ?_ | refine blk_alloc ?_ _)); exact BK195.out) hb)
                      have n3_ := Aside0.mk (blk_below (g := gb197) (o := .cells #[.int .i64 a0_1, .int .i64 0, u198002] 48 (0, 0)) (by (with_reducible repeat (first | refine blk_drewN ?_ _ | refine blk_drew ?_ | refine blk_alloc ?_ _)); exact BK197.out) hb)
                      have n4_ := Aside0.mk (below_step (by repeat (first | (with_reducible first | exact HB.out | apply below_alloc | apply pw_below_drewN | apply below_drew1 | refine below_set ?_ GE195.out | refine below_set ?_ GE197.out) | exact HB.out)) hb)
                      clear HO_9
                      clear HO_198002
                      clear BK195
                      clear BK197
                      clear HB
                      have HO_9 := n0_
                      have HO_198002 := n1_
                      have BK195 := n2_
                      have BK197 := n3_
                      have HB := n4_
                      clear n0_ n1_ n2_ n3_ n4_
                      (try clear hb)
                      (try clear hb2)
                      (try clear hk)
                      (try clear hi)
                      refine hK.out _ _ ⟨HS0_, HS1_⟩ (fun hHeld => ?_)
                      clear hK K
                      refine norm_ (a' := ?_) ?_ ?_
                      rotate_left
                      · show Act.put _ (some 58) _ = _
                        simp only [Act.put, List.setIfInBounds_toArray, List.set_cons_zero, List.set_cons_succ, i64_w, i32_w]
                        rfl
                      refine pure_ (i := 14) (N := some 59) (v := ?_) (a' := ?_) #[true, true, true, true, true, true, true, true, true, true, true, true, true, true, true, false, false] rfl rfl (any_of HT_.out (by kernel_rfl)) (fun _ _ _ h => h) (Or.inl ⟨by rfl, ?_⟩) ?_ ?_
                      rotate_left
                      · intro w'
                        go_simp
                        with_reducible rfl
                      rotate_left
                      · simp only [Act.put, List.setIfInBounds_toArray, List.set_cons_zero, List.set_cons_succ, i64_w, i32_w]
                        rfl
                      refine one_ (i := 15) (N := some 11) #[true, true, true, true, true, true, true, true, true, true, true, true, true, true, true, true, false] rfl rfl (one_of HT_.out (by kernel_rfl)) (by decide) (fun K hK => ?_)
                      refine box_step ?hg (N := 11) ?hd (cs := #[.int .i64 0, .int .i64 0, .slice none 0 0, .slice none 0 0, .int .i64 0, .int .i64 0]) (t := 38) ?hr ?_; (case hd => rfl); (case hg => rfl); (case hr => first | (go_simp; done) | (go_simp; rfl))
                      intro gb205 hg w45 hbox hb
                      have HS0_ := (hb.cell (World.block_lt_of_cell? _ _ (hHeld.1))).trans (hHeld.1)
                      have HS1_ := (hb.cell (World.block_lt_of_cell? _ _ (hHeld.2))).trans (hHeld.2)
                      have n0_ := Aside0.mk (Kd.R_below (by (with_reducible repeat (first | apply Kd.R_alloc | apply Kd.R_drewN | apply Kd.R_drew)); exact HO_9.out) hb)
                      have n1_ := Aside0.mk (Kd.R_below (by (with_reducible repeat (first | apply Kd.R_alloc | apply Kd.R_drewN | apply Kd.R_drew)); exact HO_198002.out) hb)
                      have n2_ := Aside0.mk (blk_below (g := gb195) (o := .cells #[.string a0_0, .int .i64 a0_1, .int .i64 a0_2, .int .u64 a0_3] 63 (0, 0)) (by (with_reducible repeat (first | refine blk_drewN ?_ _ | refine blk_drew ?_ | refine blk_alloc ?_ _)); exact BK195.out) hb)
                      have n3_ := Aside0.mk (blk_below (g := gb197) (o := .cells #[.int .i64 a0_1, .int .i64 0, u198002] 48 (0, 0)) (by (with_reducible repeat (first | refine blk_drewN ?_ _ | refine blk_drew ?_ | refine blk_alloc ?_ _)); exact BK197.out) hb)
                      have n4_ := Aside0.mk (below_step (by repeat (first | (with_reducible first | exact HB.out | apply below_alloc | apply pw_below_drewN | apply below_drew1 | refine below_set ?_ GE195.out | refine below_set ?_ GE197.out) | exact HB.out)) hb)
                      have n5_ := Aside0.mk (hbox)
                      have n6_ := Aside0.mk ((by rw [hg]; exact (below_size (by repeat (first | (with_reducible first | exact HB.out | apply below_alloc | apply pw_below_drewN | apply below_drew1 | refine below_set ?_ GE195.out | refine below_set ?_ GE197.out) | exact HB.out))) : w.heap.size ≤ gb205))
                      have n7_ := Aside0.mk ((by rw [hg]; exact (below_size (by repeat (first | (with_reducible first | exact HB.out | apply below_alloc | apply pw_below_drewN | apply below_drew1 | refine below_set ?_ GE195.out | refine below_set ?_ GE197.out) | exact HB.out))) : w.heap.size ≤ gb205))
                      have n8_ := Aside0.mk ((by rw [hg]; exact Nat.ne_of_lt (blk_lt (g := gb195) (o := .cells #[.string a0_0, .int .i64 a0_1, .int .i64 a0_2, .int .u64 a0_3] 63 (0, 0)) (by (with_reducible repeat (first | refine blk_drewN ?_ _ | refine blk_drew ?_ | refine blk_alloc ?_ _)); exact BK195.out)) : gb195 ≠ gb205))
                      have n9_ := Aside0.mk ((by rw [hg]; exact Nat.ne_of_gt (blk_lt (g := gb195) (o := .cells #[.string a0_0, .int .i64 a0_1, .int .i64 a0_2, .int .u64 a0_3] 63 (0, 0)) (by (with_reducible repeat (first | refine blk_drewN ?_ _ | refine blk_drew ?_ | refine blk_alloc ?_ _)); exact BK195.out)) : gb205 ≠ gb195))
                      have n10_ := Aside0.mk ((by rw [hg]; exact Nat.ne_of_lt (blk_lt (g := gb197) (o := .cells #[.int .i64 a0_1, .int .i64 0, u198002] 48 (0, 0)) (by (with_reducible repeat (first | refine blk_drewN ?_ _ | refine blk_drew ?_ | refine blk_alloc ?_ _)); exact BK197.out)) : gb197 ≠ gb205))
                      have n11_ := Aside0.mk ((by rw [hg]; exact Nat.ne_of_gt (blk_lt (g := gb197) (o := .cells #[.int .i64 a0_1, .int .i64 0, u198002] 48 (0, 0)) (by (with_reducible repeat (first | refine blk_drewN ?_ _ | refine blk_drew ?_ | refine blk_alloc ?_ _)); exact BK197.out)) : gb205 ≠ gb197))
                      clear HO_9
                      clear HO_198002
                      clear BK195
                      clear BK197
                      clear HB
                      have HO_9 := n0_
                      have HO_198002 := n1_
                      have BK195 := n2_
                      have BK197 := n3_
                      have HB := n4_
                      have BK205 := n5_
                      have GW205 := n6_
                      have GE205 := n7_
                      have NB195_205 := n8_
                      have NB205_195 := n9_
                      have NB197_205 := n10_
                      have NB205_197 := n11_
                      clear n0_ n1_ n2_ n3_ n4_ n5_ n6_ n7_ n8_ n9_ n10_ n11_
                      clear hb hbox hg
                      refine hK.out _ _ ⟨HS0_, HS1_⟩ (fun hHeld => ?_)
                      clear hK K
                      refine norm_ (a' := ?_) ?_ ?_
                      rotate_left
                      · show Act.put _ (some 11) _ = _
                        simp only [Act.put, List.setIfInBounds_toArray, List.set_cons_zero, List.set_cons_succ, i64_w, i32_w]
                        rfl
                      exact norm_ (by simp only [putAll, Act.put, List.setIfInBounds_toArray, List.set_cons_zero, List.set_cons_succ]) (hCont (gb205) _ ⟨hHeld, (by (with_reducible repeat (first | apply Kd.R_alloc | apply Kd.R_drewN | apply Kd.R_drew)); exact HO_198002.out), (by (with_reducible repeat (first | apply Kd.R_alloc | apply Kd.R_drewN | apply Kd.R_drew)); exact HO_9.out), (by (with_reducible repeat (first | refine blk_drewN ?_ _ | refine blk_drew ?_ | refine blk_alloc ?_ _)); exact BK195.out), (by (with_reducible repeat (first | refine blk_drewN ?_ _ | refine blk_drew ?_ | refine blk_alloc ?_ _)); exact BK197.out), (by (with_reducible repeat (first | refine blk_drewN ?_ _ | refine blk_drew ?_ | refine blk_alloc ?_ _)); exact BK205.out), GW205.out, GE205.out, NB195_205.out, NB205_195.out, NB197_205.out, NB205_197.out, (by repeat (first | (with_reducible first | exact HB.out | apply below_alloc | apply pw_below_drewN | apply below_drew1 | refine below_set ?_ GE195.out | refine below_set ?_ GE197.out | refine below_set ?_ GE205.out) | exact HB.out))⟩)
                    · skip
                      refine box_step ?hg (N := 11) ?hd (cs := #[.int .i64 0, .int .i64 0, .slice none 0 0, .slice none 0 0, .int .i64 0, .int .i64 0]) (t := 38) ?hr ?_; (case hd => rfl); (case hg => rfl); (case hr => first | (go_simp; done) | (go_simp; rfl))
                      intro gb205 hg w44 hbox hb
                      have HS0_ := (hb.cell (World.block_lt_of_cell? _ _ (hHeld.1))).trans (hHeld.1)
                      have HS1_ := (hb.cell (World.block_lt_of_cell? _ _ (hHeld.2))).trans (hHeld.2)
                      have n0_ := Aside0.mk (Kd.R_below (by (with_reducible repeat (first | apply Kd.R_alloc | apply Kd.R_drewN | apply Kd.R_drew)); exact HO_9.out) hb)
                      have n1_ := Aside0.mk (Kd.R_below (by (with_reducible repeat (first | apply Kd.R_alloc | apply Kd.R_drewN | apply Kd.R_drew)); exact HO_198002.out) hb)
                      have n2_ := Aside0.mk (blk_below (g := gb195) (o := .cells #[.string a0_0, .int .i64 a0_1, .int .i64 a0_2, .int .u64 a0_3] 63 (0, 0)) (by (with_reducible repeat (first | refine blk_drewN ?_ _ | refine blk_drew ?_ | refine blk_alloc ?_ _)); exact BK195.out) hb)
                      have n3_ := Aside0.mk (blk_below (g := gb197) (o := .cells #[.int .i64 a0_1, .int .i64 0, u198002] 48 (0, 0)) (by (with_reducible repeat (first | refine blk_drewN ?_ _ | refine blk_drew ?_ | refine blk_alloc ?_ _)); exact BK197.out) hb)
                      have n4_ := Aside0.mk (below_step (by repeat (first | (with_reducible first | exact HB.out | apply below_alloc | apply pw_below_drewN | apply below_drew1 | refine below_set ?_ GE195.out | refine below_set ?_ GE197.out) | exact HB.out)) hb)
                      have n5_ := Aside0.mk (hbox)
                      have n6_ := Aside0.mk ((by rw [hg]; exact (below_size (by repeat (first | (with_reducible first | exact HB.out | apply below_alloc | apply pw_below_drewN | apply below_drew1 | refine below_set ?_ GE195.out | refine below_set ?_ GE197.out) | exact HB.out))) : w.heap.size ≤ gb205))
                      have n7_ := Aside0.mk ((by rw [hg]; exact (below_size (by repeat (first | (with_reducible first | exact HB.out | apply below_alloc | apply pw_below_drewN | apply below_drew1 | refine below_set ?_ GE195.out | refine below_set ?_ GE197.out) | exact HB.out))) : w.heap.size ≤ gb205))
                      have n8_ := Aside0.mk ((by rw [hg]; exact Nat.ne_of_lt (blk_lt (g := gb195) (o := .cells #[.string a0_0, .int .i64 a0_1, .int .i64 a0_2, .int .u64 a0_3] 63 (0, 0)) (by (with_reducible repeat (first | refine blk_drewN ?_ _ | refine blk_drew ?_ | refine blk_alloc ?_ _)); exact BK195.out)) : gb195 ≠ gb205))
                      have n9_ := Aside0.mk ((by rw [hg]; exact Nat.ne_of_gt (blk_lt (g := gb195) (o := .cells #[.string a0_0, .int .i64 a0_1, .int .i64 a0_2, .int .u64 a0_3] 63 (0, 0)) (by (with_reducible repeat (first | refine blk_drewN ?_ _ | refine blk_drew ?_ | refine blk_alloc ?_ _)); exact BK195.out)) : gb205 ≠ gb195))
                      have n10_ := Aside0.mk ((by rw [hg]; exact Nat.ne_of_lt (blk_lt (g := gb197) (o := .cells #[.int .i64 a0_1, .int .i64 0, u198002] 48 (0, 0)) (by (with_reducible repeat (first | refine blk_drewN ?_ _ | refine blk_drew ?_ | refine blk_alloc ?_ _)); exact BK197.out)) : gb197 ≠ gb205))
                      have n11_ := Aside0.mk ((by rw [hg]; exact Nat.ne_of_gt (blk_lt (g := gb197) (o := .cells #[.int .i64 a0_1, .int .i64 0, u198002] 48 (0, 0)) (by (with_reducible repeat (first | refine blk_drewN ?_ _ | refine blk_drew ?_ | refine blk_alloc ?_ _)); exact BK197.out)) : gb205 ≠ gb197))
                      clear HO_9
                      clear HO_198002
                      clear BK195
                      clear BK197
                      clear HB
                      have HO_9 := n0_
                      have HO_198002 := n1_
                      have BK195 := n2_
                      have BK197 := n3_
                      have HB := n4_
                      have BK205 := n5_
                      have GW205 := n6_
                      have GE205 := n7_
                      have NB195_205 := n8_
                      have NB205_195 := n9_
                      have NB197_205 := n10_
                      have NB205_197 := n11_
                      clear n0_ n1_ n2_ n3_ n4_ n5_ n6_ n7_ n8_ n9_ n10_ n11_
                      clear hb hbox hg
                      refine hK.out _ _ ⟨HS0_, HS1_⟩ (fun hHeld => ?_)
                      clear hK K
                      refine norm_ (a' := ?_) ?_ ?_
                      rotate_left
                      · show Act.put _ (some 11) _ = _
                        simp only [Act.put, List.setIfInBounds_toArray, List.set_cons_zero, List.set_cons_succ, i64_w, i32_w]
                        rfl
                      refine one_ (i := 13) (N := some 58) #[true, true, true, true, true, true, true, true, true, true, true, true, true, true, false, true, false] rfl rfl (one_of HT_.out (by kernel_rfl)) (by decide) (fun K hK => ?_)
                      refine goes_ Try.func23 (by kernel_rfl) rfl #[.string a0_0, .int .i64 a0_2, .int .i64 a0_1, .int .i64 (rd t198 x10_2)] (by rfl) rfl rfl (by (try simp only [List.map_toArray, List.map_cons, List.map_nil]); first | done | rfl | (simp only [List.length_drop, List.length_take]; rfl)) ?_
                      with_reducible refine (coin_Own.calls a0_0 a0_2 a0_1 (rd t198 x10_2) t203 t204 _ A17.out).mono ?_
                      rintro e w45 ⟨rfl, hb⟩
                      have HS0_ := (hb.cell (World.block_lt_of_cell? _ _ (hHeld.1))).trans (hHeld.1)
                      have HS1_ := (hb.cell (World.block_lt_of_cell? _ _ (hHeld.2))).trans (hHeld.2)
                      refine ⟨_, rfl, ?_⟩
                      have n0_ := Aside0.mk (Kd.R_below (by (with_reducible repeat (first | apply Kd.R_alloc | apply Kd.R_drewN | apply Kd.R_drew)); exact HO_9.out) hb)
                      have n1_ := Aside0.mk (Kd.R_below (by (with_reducible repeat (first | apply Kd.R_alloc | apply Kd.R_drewN | apply Kd.R_drew)); exact HO_198002.out) hb)
                      have n2_ := Aside0.mk (blk_below (g := gb195) (o := .cells #[.string a0_0, .int .i64 a0_1, .int .i64 a0_2, .int .u64 a0_3] 63 (0, 0)) (by (with_reducible repeat (first | refine blk_drewN ?_ _ | refine blk_drew ?_ | refine blk_alloc ?_ _)); exact BK195.out) hb)
                      have n3_ := Aside0.mk (blk_below (g := gb197) (o := .cells #[.int .i64 a0_1, .int .i64 0, u198002] 48 (0, 0)) (by (with_reducible repeat (first | refine blk_drewN ?_ _ | refine blk_drew ?_ | refine blk_alloc ?_ _)); exact BK197.out) hb)
                      have n4_ := Aside0.mk (blk_below (g := gb205) (o := .cells #[.int .i64 0, .int .i64 0, .slice none 0 0, .slice none 0 0, .int .i64 0, .int .i64 0] 38 (0, 0)) (by (with_reducible repeat (first | refine blk_drewN ?_ _ | refine blk_drew ?_ | refine blk_alloc ?_ _)); exact BK205.out) hb)
                      have n5_ := Aside0.mk (below_step (by repeat (first | (with_reducible first | exact HB.out | apply below_alloc | apply pw_below_drewN | apply below_drew1 | refine below_set ?_ GE195.out | refine below_set ?_ GE197.out | refine below_set ?_ GE205.out) | exact HB.out)) hb)
                      clear HO_9
                      clear HO_198002
                      clear BK195
                      clear BK197
                      clear BK205
                      clear HB
                      have HO_9 := n0_
                      have HO_198002 := n1_
                      have BK195 := n2_
                      have BK197 := n3_
                      have BK205 := n4_
                      have HB := n5_
                      clear n0_ n1_ n2_ n3_ n4_ n5_
                      (try clear hb)
                      (try clear hb2)
                      (try clear hk)
                      (try clear hi)
                      refine hK.out _ _ ⟨HS0_, HS1_⟩ (fun hHeld => ?_)
                      clear hK K
                      refine norm_ (a' := ?_) ?_ ?_
                      rotate_left
                      · show Act.put _ (some 58) _ = _
                        simp only [Act.put, List.setIfInBounds_toArray, List.set_cons_zero, List.set_cons_succ, i64_w, i32_w]
                        rfl
                      refine pure_ (i := 14) (N := some 59) (v := ?_) (a' := ?_) #[true, true, true, true, true, true, true, true, true, true, true, true, true, true, true, true, false] rfl rfl (any_of HT_.out (by kernel_rfl)) (fun _ _ _ h => h) (Or.inl ⟨by rfl, ?_⟩) ?_ ?_
                      rotate_left
                      · intro w'
                        go_simp
                        with_reducible rfl
                      rotate_left
                      · simp only [Act.put, List.setIfInBounds_toArray, List.set_cons_zero, List.set_cons_succ, i64_w, i32_w]
                        rfl
                      exact norm_ (by simp only [putAll, Act.put, List.setIfInBounds_toArray, List.set_cons_zero, List.set_cons_succ]) (hCont (gb205) _ ⟨hHeld, (by (with_reducible repeat (first | apply Kd.R_alloc | apply Kd.R_drewN | apply Kd.R_drew)); exact HO_198002.out), (by (with_reducible repeat (first | apply Kd.R_alloc | apply Kd.R_drewN | apply Kd.R_drew)); exact HO_9.out), (by (with_reducible repeat (first | refine blk_drewN ?_ _ | refine blk_drew ?_ | refine blk_alloc ?_ _)); exact BK195.out), (by (with_reducible repeat (first | refine blk_drewN ?_ _ | refine blk_drew ?_ | refine blk_alloc ?_ _)); exact BK197.out), (by (with_reducible repeat (first | refine blk_drewN ?_ _ | refine blk_drew ?_ | refine blk_alloc ?_ _)); exact BK205.out), GW205.out, GE205.out, NB195_205.out, NB205_195.out, NB197_205.out, NB205_197.out, (by repeat (first | (with_reducible first | exact HB.out | apply below_alloc | apply pw_below_drewN | apply below_drew1 | refine below_set ?_ GE195.out | refine below_set ?_ GE197.out | refine below_set ?_ GE205.out) | exact HB.out))⟩)
                  rintro gb205 w46 ⟨hS_, h0_, h1_, h2_, h3_, h4_, h5_, h6_, h7_, h8_, h9_, h10_, h11_⟩
                  have n0_ : Aside0 (Kd.R k59 59 w46 w.heap.size (fun _ => True) u198002 x198002_2) := ⟨h0_⟩
                  have n1_ : Aside0 (Kd.R (Kd.int .i64) 3 w46 w.heap.size (fun _ => True) (.slice (some ad201) t198.length co42) t198) := ⟨h1_⟩
                  have n2_ : Aside0 (w46.heap[gb195]? = some (.cells #[.string a0_0, .int .i64 a0_1, .int .i64 a0_2, .int .u64 a0_3] 63 (0, 0))) := ⟨h2_⟩
                  have n3_ : Aside0 (w46.heap[gb197]? = some (.cells #[.int .i64 a0_1, .int .i64 0, u198002] 48 (0, 0))) := ⟨h3_⟩
                  have n4_ : Aside0 (w46.heap[gb205]? = some (.cells #[.int .i64 0, .int .i64 0, .slice none 0 0, .slice none 0 0, .int .i64 0, .int .i64 0] 38 (0, 0))) := ⟨h4_⟩
                  have n5_ : Aside0 (w.heap.size ≤ gb205) := ⟨h5_⟩
                  have n6_ : Aside0 (w.heap.size ≤ gb205) := ⟨h6_⟩
                  have n7_ : Aside0 (gb195 ≠ gb205) := ⟨h7_⟩
                  have n8_ : Aside0 (gb205 ≠ gb195) := ⟨h8_⟩
                  have n9_ : Aside0 (gb197 ≠ gb205) := ⟨h9_⟩
                  have n10_ : Aside0 (gb205 ≠ gb197) := ⟨h10_⟩
                  have n11_ : Aside0 (Below w.heap.size w w46) := ⟨h11_⟩
                  clear HO_9
                  clear HO_198002
                  clear BK195
                  clear BK197
                  clear HB
                  clear h0_ h1_ h2_ h3_ h4_ h5_ h6_ h7_ h8_ h9_ h10_ h11_
                  have HO_198002 := n0_
                  have HO_9 := n1_
                  have BK195 := n2_
                  have BK197 := n3_
                  have BK205 := n4_
                  have GW205 := n5_
                  have GE205 := n6_
                  have NB195_205 := n7_
                  have NB205_195 := n8_
                  have NB197_205 := n9_
                  have NB205_197 := n10_
                  have HB := n11_
                  clear n0_ n1_ n2_ n3_ n4_ n5_ n6_ n7_ n8_ n9_ n10_ n11_
                  have hHeld : w46.cell? (ad201.add (x10_2).toNat) = some (.int .i64 (rd t198 x10_2)) ∧ w46.cell? (ad201.add (x10_2).toNat) = some (.int .i64 (rd t198 x10_2)) := hS_
                  refine norm_ (a' := ?_) ?_ ?_
                  rotate_left
                  · simp only [putAll, Act.put, List.setIfInBounds_toArray, List.set_cons_zero, List.set_cons_succ]
                    rfl
                  refine one_ (i := 16) (N := none) #[true, true, true, true, true, true, true, true, true, true, true, true, true, true, true, true, true] rfl rfl (one_of HT_.out (by kernel_rfl)) (by decide) (fun K hK => ?_)
                  have hs47 : w46.cell? ⟨gb205, 0, none⟩ = some (.int .i64 0) := (blk_cell BK205.out 0).trans rfl
                  have hfs47 := blk_frozen BK205.out 0
                  have hns47_0 := NB195_205.out
                  have hns47_1 := NB197_205.out
                  have hms47_0 := NB205_195.out
                  have hms47_1 := NB205_197.out
                  have hs48 : w46.cell? ⟨gb205, 1, none⟩ = some (.int .i64 0) := (blk_cell BK205.out 1).trans rfl
                  have hfs48 := blk_frozen BK205.out 1
                  have hns48_0 := NB195_205.out
                  have hns48_1 := NB197_205.out
                  have hms48_0 := NB205_195.out
                  have hms48_1 := NB205_197.out
                  have hs49 : w46.cell? ⟨gb205, 2, none⟩ = some (.slice none 0 0) := (blk_cell BK205.out 2).trans rfl
                  have hfs49 := blk_frozen BK205.out 2
                  have hns49_0 := NB195_205.out
                  have hns49_1 := NB197_205.out
                  have hms49_0 := NB205_195.out
                  have hms49_1 := NB205_197.out
                  have hs50 : w46.cell? ⟨gb205, 3, none⟩ = some (.slice none 0 0) := (blk_cell BK205.out 3).trans rfl
                  have hfs50 := blk_frozen BK205.out 3
                  have hns50_0 := NB195_205.out
                  have hns50_1 := NB197_205.out
                  have hms50_0 := NB205_195.out
                  have hms50_1 := NB205_197.out
                  have hs51 : w46.cell? ⟨gb205, 4, none⟩ = some (.int .i64 0) := (blk_cell BK205.out 4).trans rfl
                  have hfs51 := blk_frozen BK205.out 4
                  have hns51_0 := NB195_205.out
                  have hns51_1 := NB197_205.out
                  have hms51_0 := NB205_195.out
                  have hms51_1 := NB205_197.out
                  have hs52 : w46.cell? ⟨gb205, 5, none⟩ = some (.int .i64 0) := (blk_cell BK205.out 5).trans rfl
                  have hfs52 := blk_frozen BK205.out 5
                  have hns52_0 := NB195_205.out
                  have hns52_1 := NB197_205.out
                  have hms52_0 := NB205_195.out
                  have hms52_1 := NB205_197.out
                  refine skip_ (w1 := ?_) (by rfl) rfl ?_ ?_
                  rotate_left
                  · go_simp
                    rfl
                  refine hK.out _ _ ⟨((cell_far (p := ⟨gb205, _, none⟩) (by first | exact Kd.own_blk (Kd.R_ne HO_9.out BK205.out (by decide)) | (rw [add_block]; exact Kd.own_blk (Kd.R_ne HO_9.out BK205.out (by decide))) | (show (Addr.add _ _).block ≠ _; rw [add_block]; exact Kd.own_blk (Kd.R_ne HO_9.out BK205.out (by decide))) | (dsimp only; exact Kd.own_blk (Kd.R_ne HO_9.out BK205.out (by decide)))) _).trans (((cell_far (p := ⟨gb205, _, none⟩) (by first | exact Kd.own_blk (Kd.R_ne HO_9.out BK205.out (by decide)) | (rw [add_block]; exact Kd.own_blk (Kd.R_ne HO_9.out BK205.out (by decide))) | (show (Addr.add _ _).block ≠ _; rw [add_block]; exact Kd.own_blk (Kd.R_ne HO_9.out BK205.out (by decide))) | (dsimp only; exact Kd.own_blk (Kd.R_ne HO_9.out BK205.out (by decide)))) _).trans (((cell_far (p := ⟨gb205, _, none⟩) (by first | exact Kd.own_blk (Kd.R_ne HO_9.out BK205.out (by decide)) | (rw [add_block]; exact Kd.own_blk (Kd.R_ne HO_9.out BK205.out (by decide))) | (show (Addr.add _ _).block ≠ _; rw [add_block]; exact Kd.own_blk (Kd.R_ne HO_9.out BK205.out (by decide))) | (dsimp only; exact Kd.own_blk (Kd.R_ne HO_9.out BK205.out (by decide)))) _).trans (((cell_far (p := ⟨gb205, _, none⟩) (by first | exact Kd.own_blk (Kd.R_ne HO_9.out BK205.out (by decide)) | (rw [add_block]; exact Kd.own_blk (Kd.R_ne HO_9.out BK205.out (by decide))) | (show (Addr.add _ _).block ≠ _; rw [add_block]; exact Kd.own_blk (Kd.R_ne HO_9.out BK205.out (by decide))) | (dsimp only; exact Kd.own_blk (Kd.R_ne HO_9.out BK205.out (by decide)))) _).trans (((cell_far (p := ⟨gb205, _, none⟩) (by first | exact Kd.own_blk (Kd.R_ne HO_9.out BK205.out (by decide)) | (rw [add_block]; exact Kd.own_blk (Kd.R_ne HO_9.out BK205.out (by decide))) | (show (Addr.add _ _).block ≠ _; rw [add_block]; exact Kd.own_blk (Kd.R_ne HO_9.out BK205.out (by decide))) | (dsimp only; exact Kd.own_blk (Kd.R_ne HO_9.out BK205.out (by decide)))) _).trans (((cell_far (p := ⟨gb205, _, none⟩) (by first | exact Kd.own_blk (Kd.R_ne HO_9.out BK205.out (by decide)) | (rw [add_block]; exact Kd.own_blk (Kd.R_ne HO_9.out BK205.out (by decide))) | (show (Addr.add _ _).block ≠ _; rw [add_block]; exact Kd.own_blk (Kd.R_ne HO_9.out BK205.out (by decide))) | (dsimp only; exact Kd.own_blk (Kd.R_ne HO_9.out BK205.out (by decide)))) _).trans (hHeld.1)))))))))))), ((cell_far (p := ⟨gb205, _, none⟩) (by first | exact Kd.own_blk (Kd.R_ne HO_9.out BK205.out (by decide)) | (rw [add_block]; exact Kd.own_blk (Kd.R_ne HO_9.out BK205.out (by decide))) | (show (Addr.add _ _).block ≠ _; rw [add_block]; exact Kd.own_blk (Kd.R_ne HO_9.out BK205.out (by decide))) | (dsimp only; exact Kd.own_blk (Kd.R_ne HO_9.out BK205.out (by decide)))) _).trans (((cell_far (p := ⟨gb205, _, none⟩) (by first | exact Kd.own_blk (Kd.R_ne HO_9.out BK205.out (by decide)) | (rw [add_block]; exact Kd.own_blk (Kd.R_ne HO_9.out BK205.out (by decide))) | (show (Addr.add _ _).block ≠ _; rw [add_block]; exact Kd.own_blk (Kd.R_ne HO_9.out BK205.out (by decide))) | (dsimp only; exact Kd.own_blk (Kd.R_ne HO_9.out BK205.out (by decide)))) _).trans (((cell_far (p := ⟨gb205, _, none⟩) (by first | exact Kd.own_blk (Kd.R_ne HO_9.out BK205.out (by decide)) | (rw [add_block]; exact Kd.own_blk (Kd.R_ne HO_9.out BK205.out (by decide))) | (show (Addr.add _ _).block ≠ _; rw [add_block]; exact Kd.own_blk (Kd.R_ne HO_9.out BK205.out (by decide))) | (dsimp only; exact Kd.own_blk (Kd.R_ne HO_9.out BK205.out (by decide)))) _).trans (((cell_far (p := ⟨gb205, _, none⟩) (by first | exact Kd.own_blk (Kd.R_ne HO_9.out BK205.out (by decide)) | (rw [add_block]; exact Kd.own_blk (Kd.R_ne HO_9.out BK205.out (by decide))) | (show (Addr.add _ _).block ≠ _; rw [add_block]; exact Kd.own_blk (Kd.R_ne HO_9.out BK205.out (by decide))) | (dsimp only; exact Kd.own_blk (Kd.R_ne HO_9.out BK205.out (by decide)))) _).trans (((cell_far (p := ⟨gb205, _, none⟩) (by first | exact Kd.own_blk (Kd.R_ne HO_9.out BK205.out (by decide)) | (rw [add_block]; exact Kd.own_blk (Kd.R_ne HO_9.out BK205.out (by decide))) | (show (Addr.add _ _).block ≠ _; rw [add_block]; exact Kd.own_blk (Kd.R_ne HO_9.out BK205.out (by decide))) | (dsimp only; exact Kd.own_blk (Kd.R_ne HO_9.out BK205.out (by decide)))) _).trans (((cell_far (p := ⟨gb205, _, none⟩) (by first | exact Kd.own_blk (Kd.R_ne HO_9.out BK205.out (by decide)) | (rw [add_block]; exact Kd.own_blk (Kd.R_ne HO_9.out BK205.out (by decide))) | (show (Addr.add _ _).block ≠ _; rw [add_block]; exact Kd.own_blk (Kd.R_ne HO_9.out BK205.out (by decide))) | (dsimp only; exact Kd.own_blk (Kd.R_ne HO_9.out BK205.out (by decide)))) _).trans (hHeld.2))))))))))))⟩ (fun hHeld => ?_)
                  clear hK K
                  refine done_ (done_of HT_.out (by kernel_rfl)) ?_
                  have hnb53 := NB205_195.out
                  have hnc53 := NB195_205.out
                  have hnb54 := NB205_197.out
                  have hnc54 := NB197_205.out
                  have hcz55_0 : w46.cell? ⟨gb205, 0, none⟩ = some (.int .i64 0) := (blk_cell BK205.out 0).trans rfl
                  have hcz55_1 : w46.cell? ⟨gb205, 1, none⟩ = some (.int .i64 0) := (blk_cell BK205.out 1).trans rfl
                  have hcz55_2 : w46.cell? ⟨gb205, 2, none⟩ = some (.slice none 0 0) := (blk_cell BK205.out 2).trans rfl
                  have hcz55_3 : w46.cell? ⟨gb205, 3, none⟩ = some (.slice none 0 0) := (blk_cell BK205.out 3).trans rfl
                  have hcz55_4 : w46.cell? ⟨gb205, 4, none⟩ = some (.int .i64 0) := (blk_cell BK205.out 4).trans rfl
                  have hcz55_5 : w46.cell? ⟨gb205, 5, none⟩ = some (.int .i64 0) := (blk_cell BK205.out 5).trans rfl
                  have hfz55_0 := blk_frozen BK205.out 0
                  have hfz55_1 := blk_frozen BK205.out 1
                  have hfz55_2 := blk_frozen BK205.out 2
                  have hfz55_3 := blk_frozen BK205.out 3
                  have hfz55_4 := blk_frozen BK205.out 4
                  have hfz55_5 := blk_frozen BK205.out 5
                  try go_wp2_with (first | ((with_reducible refine gate_callee (f := 25) rfl ?_); refine goesL_ (some 63) rfl rfl Try.func25 (by kernel_rfl) rfl #[.string a0_0, .int .i64 a0_1, .agg #[.int .i64 (rd t198 x10_2), .int .i64 (wrap64 (3 * a0_2)), .slice none 0 0, .slice none 0 0, .int .i64 t203, .int .i64 t204]] rfl (by (try simp only [List.map_toArray, List.map_cons, List.map_nil]); first | done | rfl | (simp only [List.length_drop, List.length_take]; rfl)) ?_; (refine (coin_Fits.calls a0_0 a0_1 (rd t198 x10_2) (wrap64 (3 * a0_2)) _ _ ([] : List (S193)) _ _ ([] : List ByteArray) t203 t204 false _ ?side1 ?side2 ?side3 ?side4 A18.out).mono ?_); (case side1 => exact Kd.C_nil _ _); (case side2 => exact Nat.le_refl _); (case side3 => exact Kd.C_nil _ _); (case side4 => exact Nat.le_refl _); rintro e w56 ⟨rfl, hb⟩; refine ⟨_, rfl, ?_⟩; have n0_ := Aside0.mk (Kd.R_below (by (with_reducible repeat (first | apply Kd.R_alloc | apply Kd.R_drewN | apply Kd.R_drew)); exact (Kd.R_mono (Kd.R_far (p := ⟨gb205, 5, none⟩) (Kd.R_far (p := ⟨gb205, 4, none⟩) (Kd.R_far (p := ⟨gb205, 3, none⟩) (Kd.R_far (p := ⟨gb205, 2, none⟩) (Kd.R_far (p := ⟨gb205, 1, none⟩) (Kd.R_far (p := ⟨gb205, 0, none⟩) (Kd.R_types HO_9.out BK205.out (by decide)) (fun _ hk => hk.2) (.int .i64 (rd t198 x10_2))) (fun _ hk => hk.2) (.int .i64 (wrap64 (3 * a0_2)))) (fun _ hk => hk.2) (.slice none 0 0)) (fun _ hk => hk.2) (.slice none 0 0)) (fun _ hk => hk.2) (.int .i64 t203)) (fun _ hk => hk.2) (.int .i64 t204)) (fun _ h_ => h_.1))) hb); have n1_ := Aside0.mk (Kd.R_below (by (with_reducible repeat (first | apply Kd.R_alloc | apply Kd.R_drewN | apply Kd.R_drew)); exact (Kd.R_mono (Kd.R_far (p := ⟨gb205, 5, none⟩) (Kd.R_far (p := ⟨gb205, 4, none⟩) (Kd.R_far (p := ⟨gb205, 3, none⟩) (Kd.R_far (p := ⟨gb205, 2, none⟩) (Kd.R_far (p := ⟨gb205, 1, none⟩) (Kd.R_far (p := ⟨gb205, 0, none⟩) (Kd.R_types HO_198002.out BK205.out (by decide)) (fun _ hk => hk.2) (.int .i64 (rd t198 x10_2))) (fun _ hk => hk.2) (.int .i64 (wrap64 (3 * a0_2)))) (fun _ hk => hk.2) (.slice none 0 0)) (fun _ hk => hk.2) (.slice none 0 0)) (fun _ hk => hk.2) (.int .i64 t203)) (fun _ hk => hk.2) (.int .i64 t204)) (fun _ h_ => h_.1))) hb); have n2_ := Aside0.mk (blk_below (g := gb195) (o := .cells #[.string a0_0, .int .i64 a0_1, .int .i64 a0_2, .int .u64 a0_3] 63 (0, 0)) (by (with_reducible repeat (first | refine blk_drewN ?_ _ | refine blk_drew ?_ | refine blk_alloc ?_ _)); refine blk_far ?_ NB195_205.out _; (with_reducible repeat (first | refine blk_drewN ?_ _ | refine blk_drew ?_ | refine blk_alloc ?_ _)); refine blk_far ?_ NB195_205.out _; (with_reducible repeat (first | refine blk_drewN ?_ _ | refine blk_drew ?_ | refine blk_alloc ?_ _)); refine blk_far ?_ NB195_205.out _; (with_reducible repeat (first | refine blk_drewN ?_ _ | refine blk_drew ?_ | refine blk_alloc ?_ _)); refine blk_far ?_ NB195_205.out _; (with_reducible repeat (first | refine blk_drewN ?_ _ | refine blk_drew ?_ | refine blk_alloc ?_ _)); refine blk_far ?_ NB195_205.out _; (with_reducible repeat (first | refine blk_drewN ?_ _ | refine blk_drew ?_ | refine blk_alloc ?_ _)); refine blk_far ?_ NB195_205.out _; (with_reducible repeat (first | refine blk_drewN ?_ _ | refine blk_drew ?_ | refine blk_alloc ?_ _)); exact BK195.out) hb); have n3_ := Aside0.mk (blk_below (g := gb197) (o := .cells #[.int .i64 a0_1, .int .i64 0, u198002] 48 (0, 0)) (by (with_reducible repeat (first | refine blk_drewN ?_ _ | refine blk_drew ?_ | refine blk_alloc ?_ _)); refine blk_far ?_ NB197_205.out _; (with_reducible repeat (first | refine blk_drewN ?_ _ | refine blk_drew ?_ | refine blk_alloc ?_ _)); refine blk_far ?_ NB197_205.out _; (with_reducible repeat (first | refine blk_drewN ?_ _ | refine blk_drew ?_ | refine blk_alloc ?_ _)); refine blk_far ?_ NB197_205.out _; (with_reducible repeat (first | refine blk_drewN ?_ _ | refine blk_drew ?_ | refine blk_alloc ?_ _)); refine blk_far ?_ NB197_205.out _; (with_reducible repeat (first | refine blk_drewN ?_ _ | refine blk_drew ?_ | refine blk_alloc ?_ _)); refine blk_far ?_ NB197_205.out _; (with_reducible repeat (first | refine blk_drewN ?_ _ | refine blk_drew ?_ | refine blk_alloc ?_ _)); refine blk_far ?_ NB197_205.out _; (with_reducible repeat (first | refine blk_drewN ?_ _ | refine blk_drew ?_ | refine blk_alloc ?_ _)); exact BK197.out) hb); have n4_ := Aside0.mk (blk_below (g := gb205) (o := .cells #[.int .i64 (rd t198 x10_2), .int .i64 (wrap64 (3 * a0_2)), .slice none 0 0, .slice none 0 0, .int .i64 t203, .int .i64 t204] 38 (0, 0)) (by (with_reducible repeat (first | refine blk_drewN ?_ _ | refine blk_drew ?_ | refine blk_alloc ?_ _)); refine blk_put (cs := #[.int .i64 (rd t198 x10_2), .int .i64 (wrap64 (3 * a0_2)), .slice none 0 0, .slice none 0 0, .int .i64 t203, .int .i64 0]) ?_ 5 _ rfl; (with_reducible repeat (first | refine blk_drewN ?_ _ | refine blk_drew ?_ | refine blk_alloc ?_ _)); refine blk_put (cs := #[.int .i64 (rd t198 x10_2), .int .i64 (wrap64 (3 * a0_2)), .slice none 0 0, .slice none 0 0, .int .i64 0, .int .i64 0]) ?_ 4 _ rfl; (with_reducible repeat (first | refine blk_drewN ?_ _ | refine blk_drew ?_ | refine blk_alloc ?_ _)); refine blk_put (cs := #[.int .i64 (rd t198 x10_2), .int .i64 (wrap64 (3 * a0_2)), .slice none 0 0, .slice none 0 0, .int .i64 0, .int .i64 0]) ?_ 3 _ rfl; (with_reducible repeat (first | refine blk_drewN ?_ _ | refine blk_drew ?_ | refine blk_alloc ?_ _)); refine blk_put (cs := #[.int .i64 (rd t198 x10_2), .int .i64 (wrap64 (3 * a0_2)), .slice none 0 0, .slice none 0 0, .int .i64 0, .int .i64 0]) ?_ 2 _ rfl; (with_reducible repeat (first | refine blk_drewN ?_ _ | refine blk_drew ?_ | refine blk_alloc ?_ _)); refine blk_put (cs := #[.int .i64 (rd t198 x10_2), .int .i64 0, .slice none 0 0, .slice none 0 0, .int .i64 0, .int .i64 0]) ?_ 1 _ rfl; (with_reducible repeat (first | refine blk_drewN ?_ _ | refine blk_drew ?_ | refine blk_alloc ?_ _)); refine blk_put (cs := #[.int .i64 0, .int .i64 0, .slice none 0 0, .slice none 0 0, .int .i64 0, .int .i64 0]) ?_ 0 _ rfl; (with_reducible repeat (first | refine blk_drewN ?_ _ | refine blk_drew ?_ | refine blk_alloc ?_ _)); exact BK205.out) hb); have n5_ := Aside0.mk (below_step (by repeat (first | (with_reducible first | exact HB.out | apply below_alloc | apply pw_below_drewN | apply below_drew1 | refine below_set ?_ GE195.out | refine below_set ?_ GE197.out | refine below_set ?_ GE205.out) | exact HB.out)) hb); clear HO_9; clear HO_198002; clear BK195; clear BK197; clear BK205; clear HB; have HO_9 := n0_; have HO_198002 := n1_; have BK195 := n2_; have BK197 := n3_; have BK205 := n4_; have HB := n5_; clear n0_ n1_ n2_ n3_ n4_ n5_; (try clear hb); (try clear hb2); (try clear hk); (try clear hi)))
                  go_ret
                  exact ⟨by first | rfl | (simp [errW_none, errW_some] <;> rfl) | (simp [*, errW_none, errW_some] <;> rfl), by repeat (first | (with_reducible first | exact HB.out | apply below_alloc | apply pw_below_drewN | apply below_drew1 | refine below_set ?_ GE195.out | refine below_set ?_ GE197.out | refine below_set ?_ GE205.out) | exact HB.out)⟩
              · rw [if_neg c16] at H
                exact absurd H (by simp)
            · rw [if_neg c15] at H
              have c15b0 : decide (x10_2 < (t198.length : Int)) = false := decide_eq_false c15
              clear c15
              replace H := Option.bind_eq_some_iff.mp H
              obtain ⟨⟨t210, t211⟩, A570, H⟩ := H
              replace H : ((selvedgeref05_May.f a0_1).bind fun t212 => (if t212 = true then ((selvedgeref05_Weak.f a0_1).bind fun t213 => (if (t198.length : Int) < t213 then (some (t211 == 12)) else ((selvedgeref12_Deal.f k2 a0_0 a0_2 a0_1).bind fun t214 => (if t211 = 0 then (if 0 < (t214.length : Int) then ((selvedgeref12_Leader.f ((rd_T23 t214 0).f0) ((rd_T23 t214 0).f1) a0_1).bind fun t218 => (if t210 = t218 then (if t210 ≥ 1 then (some (decide (t210 ≤ a0_1))) else (some false)) else (some false))) else (none)) else (some false))))) else (some (t211 == 1)))) = some r := H
              have A57 := Aside0.mk A570
              clear A570
              replace H := Option.bind_eq_some_iff.mp H
              obtain ⟨t212, A580, H⟩ := H
              replace H : (if t212 = true then ((selvedgeref05_Weak.f a0_1).bind fun t213 => (if (t198.length : Int) < t213 then (some (t211 == 12)) else ((selvedgeref12_Deal.f k2 a0_0 a0_2 a0_1).bind fun t214 => (if t211 = 0 then (if 0 < (t214.length : Int) then ((selvedgeref12_Leader.f ((rd_T23 t214 0).f0) ((rd_T23 t214 0).f1) a0_1).bind fun t218 => (if t210 = t218 then (if t210 ≥ 1 then (some (decide (t210 ≤ a0_1))) else (some false)) else (some false))) else (none)) else (some false))))) else (some (t211 == 1))) = some r := H
              have A58 := Aside0.mk A580
              clear A580
              by_cases c59 : t212 = true
              · subst c59
                have H1 : ((selvedgeref05_Weak.f a0_1).bind fun t213 => (if (t198.length : Int) < t213 then (some (t211 == 12)) else ((selvedgeref12_Deal.f k2 a0_0 a0_2 a0_1).bind fun t214 => (if t211 = 0 then (if 0 < (t214.length : Int) then ((selvedgeref12_Leader.f ((rd_T23 t214 0).f0) ((rd_T23 t214 0).f1) a0_1).bind fun t218 => (if t210 = t218 then (if t210 ≥ 1 then (some (decide (t210 ≤ a0_1))) else (some false)) else (some false))) else (none)) else (some false))))) = some r := by rw [if_pos rfl] at H; exact H
                clear H
                have H := H1
                clear H1
                replace H := Option.bind_eq_some_iff.mp H
                obtain ⟨t213, A600, H⟩ := H
                replace H : (if (t198.length : Int) < t213 then (some (t211 == 12)) else ((selvedgeref12_Deal.f k2 a0_0 a0_2 a0_1).bind fun t214 => (if t211 = 0 then (if 0 < (t214.length : Int) then ((selvedgeref12_Leader.f ((rd_T23 t214 0).f0) ((rd_T23 t214 0).f1) a0_1).bind fun t218 => (if t210 = t218 then (if t210 ≥ 1 then (some (decide (t210 ≤ a0_1))) else (some false)) else (some false))) else (none)) else (some false)))) = some r := H
                have A60 := Aside0.mk A600
                clear A600
                by_cases c61 : (t198.length : Int) < t213
                · rw [if_pos c61] at H
                  have c61b0 : decide ((t198.length : Int) < t213) = true := decide_eq_true c61
                  clear c61
                  obtain rfl := Option.some.inj H
                  obtain ⟨Ao62, co62, eo62⟩ := Kd.R_slice HO_9.out
                  subst eo62
                  have hnb63 := NB197_195.out
                  have hnc63 := NB195_197.out
                  have hcz64_0 : wr.cell? ⟨gb197, 0, none⟩ = some (.int .i64 a0_1) := (blk_cell BK197.out 0).trans rfl
                  have hcz64_1 : wr.cell? ⟨gb197, 1, none⟩ = some (.int .i64 0) := (blk_cell BK197.out 1).trans rfl
                  have hcz64_2 : wr.cell? ⟨gb197, 2, none⟩ = some (u198002) := (blk_cell BK197.out 2).trans rfl
                  have hfz64_0 := blk_frozen BK197.out 0
                  have hfz64_1 := blk_frozen BK197.out 1
                  have hfz64_2 := blk_frozen BK197.out 2
                  obtain ⟨Ao65, co65, eo65⟩ := Kd.R_slice HO_198002.out
                  subst eo65
                  go_wp2_with (first | ((with_reducible refine gate_callee (f := 29) rfl ?_); refine goesL_ (some 75) rfl rfl Try.func29 (by kernel_rfl) rfl #[.agg #[.int .i64 a0_1, .int .i64 0, .slice Ao65 x198002_2.length co65], .int .i64 a0_2] rfl (by (try simp only [List.map_toArray, List.map_cons, List.map_nil]); first | done | rfl | (simp only [List.length_drop, List.length_take]; rfl)) ?_; (with_reducible refine (coin_Reveal.calls k2 a0_1 0 _ _ x198002_2 a0_2 t210 t211 _ ?side1 ?side2 A57.out).mono ?_); (case side1 => repeat (first | exact (Kd.R_reads' HO_198002.out).2.2 | (with_reducible refine Kd.C_alloc ?_ _) | (with_reducible refine Kd.C_drewN ?_ _) | (with_reducible refine Kd.C_drew ?_))); (case side2 => exact (Kd.R_reads' HO_198002.out).2.1); rintro e w66 ⟨rfl, hb⟩; refine ⟨_, rfl, ?_⟩; have n0_ := Aside0.mk (Kd.R_below (by (with_reducible repeat (first | apply Kd.R_alloc | apply Kd.R_drewN | apply Kd.R_drew)); exact HO_9.out) hb); have n1_ := Aside0.mk (Kd.R_below (by (with_reducible repeat (first | apply Kd.R_alloc | apply Kd.R_drewN | apply Kd.R_drew)); exact HO_198002.out) hb); have n2_ := Aside0.mk (blk_below (g := gb195) (o := .cells #[.string a0_0, .int .i64 a0_1, .int .i64 a0_2, .int .u64 a0_3] 63 (0, 0)) (by (with_reducible repeat (first | refine blk_drewN ?_ _ | refine blk_drew ?_ | refine blk_alloc ?_ _)); exact BK195.out) hb); have n3_ := Aside0.mk (blk_below (g := gb197) (o := .cells #[.int .i64 a0_1, .int .i64 0, .slice Ao65 x198002_2.length co65] 48 (0, 0)) (by (with_reducible repeat (first | refine blk_drewN ?_ _ | refine blk_drew ?_ | refine blk_alloc ?_ _)); exact BK197.out) hb); have n4_ := Aside0.mk (below_step (by repeat (first | (with_reducible first | exact HB.out | apply below_alloc | apply pw_below_drewN | apply below_drew1 | refine below_set ?_ GE195.out | refine below_set ?_ GE197.out) | exact HB.out)) hb); clear HO_9; clear HO_198002; clear BK195; clear BK197; clear HB; have HO_9 := n0_; have HO_198002 := n1_; have BK195 := n2_; have BK197 := n3_; have HB := n4_; clear n0_ n1_ n2_ n3_ n4_; (try clear hb); (try clear hb2); (try clear hk); (try clear hi)) | ((with_reducible refine gate_callee (f := 18) rfl ?_); refine goesL_ (some 79) rfl rfl Try.func18 (by kernel_rfl) rfl #[.int .i64 a0_1] rfl (by (try simp only [List.map_toArray, List.map_cons, List.map_nil]); first | done | rfl | (simp only [List.length_drop, List.length_take]; rfl)) ?_; (with_reducible refine (selvedgeref05_May.calls a0_1 true _ A58.out).mono ?_); rintro e w' ⟨rfl, ⟨nd, rfl⟩⟩; refine ⟨_, rfl, ?_⟩) | ((with_reducible refine gate_callee (f := 33) rfl ?_); refine goesL_ (some 86) rfl rfl Try.func33 (by kernel_rfl) rfl #[.int .i64 a0_1] rfl (by (try simp only [List.map_toArray, List.map_cons, List.map_nil]); first | done | rfl | (simp only [List.length_drop, List.length_take]; rfl)) ?_; (with_reducible refine (selvedgeref05_Weak.calls a0_1 t213 _ A60.out).mono ?_); rintro e w' ⟨rfl, ⟨nd, rfl⟩⟩; refine ⟨_, rfl, ?_⟩))
                  go_ret
                  exact ⟨by first | rfl | (simp [errW_none, errW_some] <;> rfl) | (simp [*, errW_none, errW_some] <;> rfl), by repeat (first | (with_reducible first | exact HB.out | apply below_alloc | apply pw_below_drewN | apply below_drew1 | refine below_set ?_ GE195.out | refine below_set ?_ GE197.out) | exact HB.out)⟩
                · rw [if_neg c61] at H
                  have c61b0 : decide ((t198.length : Int) < t213) = false := decide_eq_false c61
                  clear c61
                  replace H := Option.bind_eq_some_iff.mp H
                  obtain ⟨t214, A670, H⟩ := H
                  replace H : (if t211 = 0 then (if 0 < (t214.length : Int) then ((selvedgeref12_Leader.f ((rd_T23 t214 0).f0) ((rd_T23 t214 0).f1) a0_1).bind fun t218 => (if t210 = t218 then (if t210 ≥ 1 then (some (decide (t210 ≤ a0_1))) else (some false)) else (some false))) else (none)) else (some false)) = some r := H
                  have A67 := Aside0.mk A670
                  clear A670
                  by_cases c68 : t211 = 0
                  · rw [if_pos c68] at H
                    have c68b0 : (t211 == 0) = true := beq_iff_eq.mpr c68
                    have c68b1 : (t211 != 0) = false := bne_eq_false_iff_eq.mpr c68
                    clear c68
                    by_cases c69 : 0 < (t214.length : Int)
                    · rw [if_pos c69] at H
                      have c69b0 : decide (0 < (t214.length : Int)) = true := decide_eq_true c69
                      have c69b1 : decide (0 < t214.length) = true := decide_eq_true (by omega)
                      clear c69
                      replace H := Option.bind_eq_some_iff.mp H
                      obtain ⟨t218, A700, H⟩ := H
                      replace H : (if t210 = t218 then (if t210 ≥ 1 then (some (decide (t210 ≤ a0_1))) else (some false)) else (some false)) = some r := H
                      have A70 := Aside0.mk A700
                      clear A700
                      by_cases c71 : t210 = t218
                      · rw [if_pos c71] at H
                        have c71b0 : (t210 == t218) = true := beq_iff_eq.mpr c71
                        have c71b1 : (t210 != t218) = false := bne_eq_false_iff_eq.mpr c71
                        clear c71
                        by_cases c72 : t210 ≥ 1
                        · rw [if_pos c72] at H
                          have c72b0 : decide (1 ≤ t210) = true := decide_eq_true c72
                          clear c72
                          obtain rfl := Option.some.inj H
                          obtain ⟨Ao73, co73, eo73⟩ := Kd.R_slice HO_9.out
                          subst eo73
                          have hnb74 := NB197_195.out
                          have hnc74 := NB195_197.out
                          have hcz75_0 : wr.cell? ⟨gb197, 0, none⟩ = some (.int .i64 a0_1) := (blk_cell BK197.out 0).trans rfl
                          have hcz75_1 : wr.cell? ⟨gb197, 1, none⟩ = some (.int .i64 0) := (blk_cell BK197.out 1).trans rfl
                          have hcz75_2 : wr.cell? ⟨gb197, 2, none⟩ = some (u198002) := (blk_cell BK197.out 2).trans rfl
                          have hfz75_0 := blk_frozen BK197.out 0
                          have hfz75_1 := blk_frozen BK197.out 1
                          have hfz75_2 := blk_frozen BK197.out 2
                          obtain ⟨Ao76, co76, eo76⟩ := Kd.R_slice HO_198002.out
                          subst eo76
                          go_wp2_with (first | ((with_reducible refine gate_callee (f := 29) rfl ?_); refine goesL_ (some 75) rfl rfl Try.func29 (by kernel_rfl) rfl #[.agg #[.int .i64 a0_1, .int .i64 0, .slice Ao76 x198002_2.length co76], .int .i64 a0_2] rfl (by (try simp only [List.map_toArray, List.map_cons, List.map_nil]); first | done | rfl | (simp only [List.length_drop, List.length_take]; rfl)) ?_; (with_reducible refine (coin_Reveal.calls k2 a0_1 0 _ _ x198002_2 a0_2 t210 t211 _ ?side1 ?side2 A57.out).mono ?_); (case side1 => repeat (first | exact (Kd.R_reads' HO_198002.out).2.2 | (with_reducible refine Kd.C_alloc ?_ _) | (with_reducible refine Kd.C_drewN ?_ _) | (with_reducible refine Kd.C_drew ?_))); (case side2 => exact (Kd.R_reads' HO_198002.out).2.1); rintro e w77 ⟨rfl, hb⟩; refine ⟨_, rfl, ?_⟩; have n0_ := Aside0.mk (Kd.R_below (by (with_reducible repeat (first | apply Kd.R_alloc | apply Kd.R_drewN | apply Kd.R_drew)); exact HO_9.out) hb); have n1_ := Aside0.mk (Kd.R_below (by (with_reducible repeat (first | apply Kd.R_alloc | apply Kd.R_drewN | apply Kd.R_drew)); exact HO_198002.out) hb); have n2_ := Aside0.mk (blk_below (g := gb195) (o := .cells #[.string a0_0, .int .i64 a0_1, .int .i64 a0_2, .int .u64 a0_3] 63 (0, 0)) (by (with_reducible repeat (first | refine blk_drewN ?_ _ | refine blk_drew ?_ | refine blk_alloc ?_ _)); exact BK195.out) hb); have n3_ := Aside0.mk (blk_below (g := gb197) (o := .cells #[.int .i64 a0_1, .int .i64 0, .slice Ao76 x198002_2.length co76] 48 (0, 0)) (by (with_reducible repeat (first | refine blk_drewN ?_ _ | refine blk_drew ?_ | refine blk_alloc ?_ _)); exact BK197.out) hb); have n4_ := Aside0.mk (below_step (by repeat (first | (with_reducible first | exact HB.out | apply below_alloc | apply pw_below_drewN | apply below_drew1 | refine below_set ?_ GE195.out | refine below_set ?_ GE197.out) | exact HB.out)) hb); clear HO_9; clear HO_198002; clear BK195; clear BK197; clear HB; have HO_9 := n0_; have HO_198002 := n1_; have BK195 := n2_; have BK197 := n3_; have HB := n4_; clear n0_ n1_ n2_ n3_ n4_; (try clear hb); (try clear hb2); (try clear hk); (try clear hi)) | ((with_reducible refine gate_callee (f := 18) rfl ?_); refine goesL_ (some 79) rfl rfl Try.func18 (by kernel_rfl) rfl #[.int .i64 a0_1] rfl (by (try simp only [List.map_toArray, List.map_cons, List.map_nil]); first | done | rfl | (simp only [List.length_drop, List.length_take]; rfl)) ?_; (with_reducible refine (selvedgeref05_May.calls a0_1 true _ A58.out).mono ?_); rintro e w' ⟨rfl, ⟨nd, rfl⟩⟩; refine ⟨_, rfl, ?_⟩) | ((with_reducible refine gate_callee (f := 33) rfl ?_); refine goesL_ (some 86) rfl rfl Try.func33 (by kernel_rfl) rfl #[.int .i64 a0_1] rfl (by (try simp only [List.map_toArray, List.map_cons, List.map_nil]); first | done | rfl | (simp only [List.length_drop, List.length_take]; rfl)) ?_; (with_reducible refine (selvedgeref05_Weak.calls a0_1 t213 _ A60.out).mono ?_); rintro e w' ⟨rfl, ⟨nd, rfl⟩⟩; refine ⟨_, rfl, ?_⟩) | ((with_reducible refine gate_callee (f := 22) rfl ?_); refine goesL_ (some 93) rfl rfl Try.func22 (by kernel_rfl) rfl #[.string a0_0, .int .i64 a0_2, .int .i64 a0_1] rfl (by (try simp only [List.map_toArray, List.map_cons, List.map_nil]); first | done | rfl | (simp only [List.length_drop, List.length_take]; rfl)) ?_; (with_reducible refine (selvedgeref12_Deal.calls k2 a0_0 a0_2 a0_1 t214 _ A67.out).mono ?_); rintro e w78 ⟨v215, rfl, ho0, hb⟩; refine ⟨_, rfl, ?_⟩; have n0_ := Aside0.mk (Kd.R_below (by (with_reducible repeat (first | apply Kd.R_alloc | apply Kd.R_drewN | apply Kd.R_drew)); exact HO_9.out) hb); have n1_ := Aside0.mk (Kd.R_below (by (with_reducible repeat (first | apply Kd.R_alloc | apply Kd.R_drewN | apply Kd.R_drew)); exact HO_198002.out) hb); have n2_ := Aside0.mk (Kd.R_lower ho0 (below_size (by repeat (first | (with_reducible first | exact HB.out | apply below_alloc | apply pw_below_drewN | apply below_drew1 | refine below_set ?_ GE195.out | refine below_set ?_ GE197.out) | exact HB.out)))); have n3_ := Aside0.mk (blk_below (g := gb195) (o := .cells #[.string a0_0, .int .i64 a0_1, .int .i64 a0_2, .int .u64 a0_3] 63 (0, 0)) (by (with_reducible repeat (first | refine blk_drewN ?_ _ | refine blk_drew ?_ | refine blk_alloc ?_ _)); exact BK195.out) hb); have n4_ := Aside0.mk (blk_below (g := gb197) (o := .cells #[.int .i64 a0_1, .int .i64 0, .slice Ao76 x198002_2.length co76] 48 (0, 0)) (by (with_reducible repeat (first | refine blk_drewN ?_ _ | refine blk_drew ?_ | refine blk_alloc ?_ _)); exact BK197.out) hb); have n5_ := Aside0.mk (below_step (by repeat (first | (with_reducible first | exact HB.out | apply below_alloc | apply pw_below_drewN | apply below_drew1 | refine below_set ?_ GE195.out | refine below_set ?_ GE197.out) | exact HB.out)) hb); clear HO_9; clear HO_198002; clear BK195; clear BK197; clear HB; have HO_9 := n0_; have HO_198002 := n1_; have HO216 := n2_; have BK195 := n3_; have BK197 := n4_; have HB := n5_; clear n0_ n1_ n2_ n3_ n4_ n5_; (try clear hb); (try clear hb2); (try clear hk); (try clear hi); (try clear ho0); obtain ⟨Ao79, co79, eo79⟩ := Kd.R_slice HO216.out; subst eo79; have p217 : 0 ≤ (0 : Int) := (by omega); have q217 : 0 < (t214.length : Int) := of_decide_eq_true (by first | (with_reducible assumption) | assumption); obtain ⟨ad217, e217, hx217_0, hx217_1⟩ := at_T23 (Kd.R_reads' HO216.out).2.2 0 p217 q217; cases e217; have qi217 : (0 < t214.length) = True := eq_true (by omega); (try rw [show ((0 : Int)).toNat = 0 from rfl] at hx217_0); (try rw [show 0 * 2 = 0 from rfl] at hx217_0); (try rw [Addr.add_zero'] at hx217_0); (try rw [show ((0 : Int)).toNat = 0 from rfl] at hx217_1); (try rw [show 0 * 2 = 0 from rfl] at hx217_1); (try rw [Addr.add_zero'] at hx217_1); replace p217 := eq_true p217; replace q217 := eq_true q217) | (go_at_call 27; (with_reducible refine (selvedgeref12_Leader.calls ((rd_T23 t214 0).f0) ((rd_T23 t214 0).f1) a0_1 t218 _ A70.out).mono ?_); rintro e w80 ⟨rfl, hb⟩; have n0_ := Aside0.mk (Kd.R_below (by (with_reducible repeat (first | apply Kd.R_alloc | apply Kd.R_drewN | apply Kd.R_drew)); exact HO_9.out) hb); have n1_ := Aside0.mk (Kd.R_below (by (with_reducible repeat (first | apply Kd.R_alloc | apply Kd.R_drewN | apply Kd.R_drew)); exact HO_198002.out) hb); have n2_ := Aside0.mk (Kd.R_below (by (with_reducible repeat (first | apply Kd.R_alloc | apply Kd.R_drewN | apply Kd.R_drew)); exact HO216.out) hb); have n3_ := Aside0.mk (blk_below (g := gb195) (o := .cells #[.string a0_0, .int .i64 a0_1, .int .i64 a0_2, .int .u64 a0_3] 63 (0, 0)) (by (with_reducible repeat (first | refine blk_drewN ?_ _ | refine blk_drew ?_ | refine blk_alloc ?_ _)); exact BK195.out) hb); have n4_ := Aside0.mk (blk_below (g := gb197) (o := .cells #[.int .i64 a0_1, .int .i64 0, .slice Ao76 x198002_2.length co76] 48 (0, 0)) (by (with_reducible repeat (first | refine blk_drewN ?_ _ | refine blk_drew ?_ | refine blk_alloc ?_ _)); exact BK197.out) hb); have n5_ := Aside0.mk (below_step (by repeat (first | (with_reducible first | exact HB.out | apply below_alloc | apply pw_below_drewN | apply below_drew1 | refine below_set ?_ GE195.out | refine below_set ?_ GE197.out) | exact HB.out)) hb); clear HO_9; clear HO_198002; clear HO216; clear BK195; clear BK197; clear HB; have HO_9 := n0_; have HO_198002 := n1_; have HO216 := n2_; have BK195 := n3_; have BK197 := n4_; have HB := n5_; clear n0_ n1_ n2_ n3_ n4_ n5_; (try clear hb); (try clear hb2); (try clear hk); (try clear hi)))
                          go_ret
                          exact ⟨by first | rfl | (simp [errW_none, errW_some] <;> rfl) | (simp [*, errW_none, errW_some] <;> rfl), by repeat (first | (with_reducible first | exact HB.out | apply below_alloc | apply pw_below_drewN | apply below_drew1 | refine below_set ?_ GE195.out | refine below_set ?_ GE197.out) | exact HB.out)⟩
                        · rw [if_neg c72] at H
                          have c72b0 : decide (1 ≤ t210) = false := decide_eq_false c72
                          clear c72
                          obtain rfl := Option.some.inj H
                          obtain ⟨Ao81, co81, eo81⟩ := Kd.R_slice HO_9.out
                          subst eo81
                          have hnb82 := NB197_195.out
                          have hnc82 := NB195_197.out
                          have hcz83_0 : wr.cell? ⟨gb197, 0, none⟩ = some (.int .i64 a0_1) := (blk_cell BK197.out 0).trans rfl
                          have hcz83_1 : wr.cell? ⟨gb197, 1, none⟩ = some (.int .i64 0) := (blk_cell BK197.out 1).trans rfl
                          have hcz83_2 : wr.cell? ⟨gb197, 2, none⟩ = some (u198002) := (blk_cell BK197.out 2).trans rfl
                          have hfz83_0 := blk_frozen BK197.out 0
                          have hfz83_1 := blk_frozen BK197.out 1
                          have hfz83_2 := blk_frozen BK197.out 2
                          obtain ⟨Ao84, co84, eo84⟩ := Kd.R_slice HO_198002.out
                          subst eo84
                          go_wp2_with (first | ((with_reducible refine gate_callee (f := 29) rfl ?_); refine goesL_ (some 75) rfl rfl Try.func29 (by kernel_rfl) rfl #[.agg #[.int .i64 a0_1, .int .i64 0, .slice Ao84 x198002_2.length co84], .int .i64 a0_2] rfl (by (try simp only [List.map_toArray, List.map_cons, List.map_nil]); first | done | rfl | (simp only [List.length_drop, List.length_take]; rfl)) ?_; (with_reducible refine (coin_Reveal.calls k2 a0_1 0 _ _ x198002_2 a0_2 t210 t211 _ ?side1 ?side2 A57.out).mono ?_); (case side1 => repeat (first | exact (Kd.R_reads' HO_198002.out).2.2 | (with_reducible refine Kd.C_alloc ?_ _) | (with_reducible refine Kd.C_drewN ?_ _) | (with_reducible refine Kd.C_drew ?_))); (case side2 => exact (Kd.R_reads' HO_198002.out).2.1); rintro e w85 ⟨rfl, hb⟩; refine ⟨_, rfl, ?_⟩; have n0_ := Aside0.mk (Kd.R_below (by (with_reducible repeat (first | apply Kd.R_alloc | apply Kd.R_drewN | apply Kd.R_drew)); exact HO_9.out) hb); have n1_ := Aside0.mk (Kd.R_below (by (with_reducible repeat (first | apply Kd.R_alloc | apply Kd.R_drewN | apply Kd.R_drew)); exact HO_198002.out) hb); have n2_ := Aside0.mk (blk_below (g := gb195) (o := .cells #[.string a0_0, .int .i64 a0_1, .int .i64 a0_2, .int .u64 a0_3] 63 (0, 0)) (by (with_reducible repeat (first | refine blk_drewN ?_ _ | refine blk_drew ?_ | refine blk_alloc ?_ _)); exact BK195.out) hb); have n3_ := Aside0.mk (blk_below (g := gb197) (o := .cells #[.int .i64 a0_1, .int .i64 0, .slice Ao84 x198002_2.length co84] 48 (0, 0)) (by (with_reducible repeat (first | refine blk_drewN ?_ _ | refine blk_drew ?_ | refine blk_alloc ?_ _)); exact BK197.out) hb); have n4_ := Aside0.mk (below_step (by repeat (first | (with_reducible first | exact HB.out | apply below_alloc | apply pw_below_drewN | apply below_drew1 | refine below_set ?_ GE195.out | refine below_set ?_ GE197.out) | exact HB.out)) hb); clear HO_9; clear HO_198002; clear BK195; clear BK197; clear HB; have HO_9 := n0_; have HO_198002 := n1_; have BK195 := n2_; have BK197 := n3_; have HB := n4_; clear n0_ n1_ n2_ n3_ n4_; (try clear hb); (try clear hb2); (try clear hk); (try clear hi)) | ((with_reducible refine gate_callee (f := 18) rfl ?_); refine goesL_ (some 79) rfl rfl Try.func18 (by kernel_rfl) rfl #[.int .i64 a0_1] rfl (by (try simp only [List.map_toArray, List.map_cons, List.map_nil]); first | done | rfl | (simp only [List.length_drop, List.length_take]; rfl)) ?_; (with_reducible refine (selvedgeref05_May.calls a0_1 true _ A58.out).mono ?_); rintro e w' ⟨rfl, ⟨nd, rfl⟩⟩; refine ⟨_, rfl, ?_⟩) | ((with_reducible refine gate_callee (f := 33) rfl ?_); refine goesL_ (some 86) rfl rfl Try.func33 (by kernel_rfl) rfl #[.int .i64 a0_1] rfl (by (try simp only [List.map_toArray, List.map_cons, List.map_nil]); first | done | rfl | (simp only [List.length_drop, List.length_take]; rfl)) ?_; (with_reducible refine (selvedgeref05_Weak.calls a0_1 t213 _ A60.out).mono ?_); rintro e w' ⟨rfl, ⟨nd, rfl⟩⟩; refine ⟨_, rfl, ?_⟩) | ((with_reducible refine gate_callee (f := 22) rfl ?_); refine goesL_ (some 93) rfl rfl Try.func22 (by kernel_rfl) rfl #[.string a0_0, .int .i64 a0_2, .int .i64 a0_1] rfl (by (try simp only [List.map_toArray, List.map_cons, List.map_nil]); first | done | rfl | (simp only [List.length_drop, List.length_take]; rfl)) ?_; (with_reducible refine (selvedgeref12_Deal.calls k2 a0_0 a0_2 a0_1 t214 _ A67.out).mono ?_); rintro e w86 ⟨v215, rfl, ho0, hb⟩; refine ⟨_, rfl, ?_⟩; have n0_ := Aside0.mk (Kd.R_below (by (with_reducible repeat (first | apply Kd.R_alloc | apply Kd.R_drewN | apply Kd.R_drew)); exact HO_9.out) hb); have n1_ := Aside0.mk (Kd.R_below (by (with_reducible repeat (first | apply Kd.R_alloc | apply Kd.R_drewN | apply Kd.R_drew)); exact HO_198002.out) hb); have n2_ := Aside0.mk (Kd.R_lower ho0 (below_size (by repeat (first | (with_reducible first | exact HB.out | apply below_alloc | apply pw_below_drewN | apply below_drew1 | refine below_set ?_ GE195.out | refine below_set ?_ GE197.out) | exact HB.out)))); have n3_ := Aside0.mk (blk_below (g := gb195) (o := .cells #[.string a0_0, .int .i64 a0_1, .int .i64 a0_2, .int .u64 a0_3] 63 (0, 0)) (by (with_reducible repeat (first | refine blk_drewN ?_ _ | refine blk_drew ?_ | refine blk_alloc ?_ _)); exact BK195.out) hb); have n4_ := Aside0.mk (blk_below (g := gb197) (o := .cells #[.int .i64 a0_1, .int .i64 0, .slice Ao84 x198002_2.length co84] 48 (0, 0)) (by (with_reducible repeat (first | refine blk_drewN ?_ _ | refine blk_drew ?_ | refine blk_alloc ?_ _)); exact BK197.out) hb); have n5_ := Aside0.mk (below_step (by repeat (first | (with_reducible first | exact HB.out | apply below_alloc | apply pw_below_drewN | apply below_drew1 | refine below_set ?_ GE195.out | refine below_set ?_ GE197.out) | exact HB.out)) hb); clear HO_9; clear HO_198002; clear BK195; clear BK197; clear HB; have HO_9 := n0_; have HO_198002 := n1_; have HO216 := n2_; have BK195 := n3_; have BK197 := n4_; have HB := n5_; clear n0_ n1_ n2_ n3_ n4_ n5_; (try clear hb); (try clear hb2); (try clear hk); (try clear hi); (try clear ho0); obtain ⟨Ao87, co87, eo87⟩ := Kd.R_slice HO216.out; subst eo87; have p217 : 0 ≤ (0 : Int) := (by omega); have q217 : 0 < (t214.length : Int) := of_decide_eq_true (by first | (with_reducible assumption) | assumption); obtain ⟨ad217, e217, hx217_0, hx217_1⟩ := at_T23 (Kd.R_reads' HO216.out).2.2 0 p217 q217; cases e217; have qi217 : (0 < t214.length) = True := eq_true (by omega); (try rw [show ((0 : Int)).toNat = 0 from rfl] at hx217_0); (try rw [show 0 * 2 = 0 from rfl] at hx217_0); (try rw [Addr.add_zero'] at hx217_0); (try rw [show ((0 : Int)).toNat = 0 from rfl] at hx217_1); (try rw [show 0 * 2 = 0 from rfl] at hx217_1); (try rw [Addr.add_zero'] at hx217_1); replace p217 := eq_true p217; replace q217 := eq_true q217) | (go_at_call 27; (with_reducible refine (selvedgeref12_Leader.calls ((rd_T23 t214 0).f0) ((rd_T23 t214 0).f1) a0_1 t218 _ A70.out).mono ?_); rintro e w88 ⟨rfl, hb⟩; have n0_ := Aside0.mk (Kd.R_below (by (with_reducible repeat (first | apply Kd.R_alloc | apply Kd.R_drewN | apply Kd.R_drew)); exact HO_9.out) hb); have n1_ := Aside0.mk (Kd.R_below (by (with_reducible repeat (first | apply Kd.R_alloc | apply Kd.R_drewN | apply Kd.R_drew)); exact HO_198002.out) hb); have n2_ := Aside0.mk (Kd.R_below (by (with_reducible repeat (first | apply Kd.R_alloc | apply Kd.R_drewN | apply Kd.R_drew)); exact HO216.out) hb); have n3_ := Aside0.mk (blk_below (g := gb195) (o := .cells #[.string a0_0, .int .i64 a0_1, .int .i64 a0_2, .int .u64 a0_3] 63 (0, 0)) (by (with_reducible repeat (first | refine blk_drewN ?_ _ | refine blk_drew ?_ | refine blk_alloc ?_ _)); exact BK195.out) hb); have n4_ := Aside0.mk (blk_below (g := gb197) (o := .cells #[.int .i64 a0_1, .int .i64 0, .slice Ao84 x198002_2.length co84] 48 (0, 0)) (by (with_reducible repeat (first | refine blk_drewN ?_ _ | refine blk_drew ?_ | refine blk_alloc ?_ _)); exact BK197.out) hb); have n5_ := Aside0.mk (below_step (by repeat (first | (with_reducible first | exact HB.out | apply below_alloc | apply pw_below_drewN | apply below_drew1 | refine below_set ?_ GE195.out | refine below_set ?_ GE197.out) | exact HB.out)) hb); clear HO_9; clear HO_198002; clear HO216; clear BK195; clear BK197; clear HB; have HO_9 := n0_; have HO_198002 := n1_; have HO216 := n2_; have BK195 := n3_; have BK197 := n4_; have HB := n5_; clear n0_ n1_ n2_ n3_ n4_ n5_; (try clear hb); (try clear hb2); (try clear hk); (try clear hi)))
                          go_ret
                          exact ⟨by first | rfl | (simp [errW_none, errW_some] <;> rfl) | (simp [*, errW_none, errW_some] <;> rfl), by repeat (first | (with_reducible first | exact HB.out | apply below_alloc | apply pw_below_drewN | apply below_drew1 | refine below_set ?_ GE195.out | refine below_set ?_ GE197.out) | exact HB.out)⟩
                      · rw [if_neg c71] at H
                        have c71b0 : (t210 == t218) = false := beq_eq_false_iff_ne.mpr c71
                        have c71b1 : (t210 != t218) = true := bne_iff_ne.mpr c71
                        obtain rfl := Option.some.inj H
                        obtain ⟨Ao89, co89, eo89⟩ := Kd.R_slice HO_9.out
                        subst eo89
                        have hnb90 := NB197_195.out
                        have hnc90 := NB195_197.out
                        have hcz91_0 : wr.cell? ⟨gb197, 0, none⟩ = some (.int .i64 a0_1) := (blk_cell BK197.out 0).trans rfl
                        have hcz91_1 : wr.cell? ⟨gb197, 1, none⟩ = some (.int .i64 0) := (blk_cell BK197.out 1).trans rfl
                        have hcz91_2 : wr.cell? ⟨gb197, 2, none⟩ = some (u198002) := (blk_cell BK197.out 2).trans rfl
                        have hfz91_0 := blk_frozen BK197.out 0
                        have hfz91_1 := blk_frozen BK197.out 1
                        have hfz91_2 := blk_frozen BK197.out 2
                        obtain ⟨Ao92, co92, eo92⟩ := Kd.R_slice HO_198002.out
                        subst eo92
                        go_wp2_with (first | ((with_reducible refine gate_callee (f := 29) rfl ?_); refine goesL_ (some 75) rfl rfl Try.func29 (by kernel_rfl) rfl #[.agg #[.int .i64 a0_1, .int .i64 0, .slice Ao92 x198002_2.length co92], .int .i64 a0_2] rfl (by (try simp only [List.map_toArray, List.map_cons, List.map_nil]); first | done | rfl | (simp only [List.length_drop, List.length_take]; rfl)) ?_; (with_reducible refine (coin_Reveal.calls k2 a0_1 0 _ _ x198002_2 a0_2 t210 t211 _ ?side1 ?side2 A57.out).mono ?_); (case side1 => repeat (first | exact (Kd.R_reads' HO_198002.out).2.2 | (with_reducible refine Kd.C_alloc ?_ _) | (with_reducible refine Kd.C_drewN ?_ _) | (with_reducible refine Kd.C_drew ?_))); (case side2 => exact (Kd.R_reads' HO_198002.out).2.1); rintro e w93 ⟨rfl, hb⟩; refine ⟨_, rfl, ?_⟩; have n0_ := Aside0.mk (Kd.R_below (by (with_reducible repeat (first | apply Kd.R_alloc | apply Kd.R_drewN | apply Kd.R_drew)); exact HO_9.out) hb); have n1_ := Aside0.mk (Kd.R_below (by (with_reducible repeat (first | apply Kd.R_alloc | apply Kd.R_drewN | apply Kd.R_drew)); exact HO_198002.out) hb); have n2_ := Aside0.mk (blk_below (g := gb195) (o := .cells #[.string a0_0, .int .i64 a0_1, .int .i64 a0_2, .int .u64 a0_3] 63 (0, 0)) (by (with_reducible repeat (first | refine blk_drewN ?_ _ | refine blk_drew ?_ | refine blk_alloc ?_ _)); exact BK195.out) hb); have n3_ := Aside0.mk (blk_below (g := gb197) (o := .cells #[.int .i64 a0_1, .int .i64 0, .slice Ao92 x198002_2.length co92] 48 (0, 0)) (by (with_reducible repeat (first | refine blk_drewN ?_ _ | refine blk_drew ?_ | refine blk_alloc ?_ _)); exact BK197.out) hb); have n4_ := Aside0.mk (below_step (by repeat (first | (with_reducible first | exact HB.out | apply below_alloc | apply pw_below_drewN | apply below_drew1 | refine below_set ?_ GE195.out | refine below_set ?_ GE197.out) | exact HB.out)) hb); clear HO_9; clear HO_198002; clear BK195; clear BK197; clear HB; have HO_9 := n0_; have HO_198002 := n1_; have BK195 := n2_; have BK197 := n3_; have HB := n4_; clear n0_ n1_ n2_ n3_ n4_; (try clear hb); (try clear hb2); (try clear hk); (try clear hi)) | ((with_reducible refine gate_callee (f := 18) rfl ?_); refine goesL_ (some 79) rfl rfl Try.func18 (by kernel_rfl) rfl #[.int .i64 a0_1] rfl (by (try simp only [List.map_toArray, List.map_cons, List.map_nil]); first | done | rfl | (simp only [List.length_drop, List.length_take]; rfl)) ?_; (with_reducible refine (selvedgeref05_May.calls a0_1 true _ A58.out).mono ?_); rintro e w' ⟨rfl, ⟨nd, rfl⟩⟩; refine ⟨_, rfl, ?_⟩) | ((with_reducible refine gate_callee (f := 33) rfl ?_); refine goesL_ (some 86) rfl rfl Try.func33 (by kernel_rfl) rfl #[.int .i64 a0_1] rfl (by (try simp only [List.map_toArray, List.map_cons, List.map_nil]); first | done | rfl | (simp only [List.length_drop, List.length_take]; rfl)) ?_; (with_reducible refine (selvedgeref05_Weak.calls a0_1 t213 _ A60.out).mono ?_); rintro e w' ⟨rfl, ⟨nd, rfl⟩⟩; refine ⟨_, rfl, ?_⟩) | ((with_reducible refine gate_callee (f := 22) rfl ?_); refine goesL_ (some 93) rfl rfl Try.func22 (by kernel_rfl) rfl #[.string a0_0, .int .i64 a0_2, .int .i64 a0_1] rfl (by (try simp only [List.map_toArray, List.map_cons, List.map_nil]); first | done | rfl | (simp only [List.length_drop, List.length_take]; rfl)) ?_; (with_reducible refine (selvedgeref12_Deal.calls k2 a0_0 a0_2 a0_1 t214 _ A67.out).mono ?_); rintro e w94 ⟨v215, rfl, ho0, hb⟩; refine ⟨_, rfl, ?_⟩; have n0_ := Aside0.mk (Kd.R_below (by (with_reducible repeat (first | apply Kd.R_alloc | apply Kd.R_drewN | apply Kd.R_drew)); exact HO_9.out) hb); have n1_ := Aside0.mk (Kd.R_below (by (with_reducible repeat (first | apply Kd.R_alloc | apply Kd.R_drewN | apply Kd.R_drew)); exact HO_198002.out) hb); have n2_ := Aside0.mk (Kd.R_lower ho0 (below_size (by repeat (first | (with_reducible first | exact HB.out | apply below_alloc | apply pw_below_drewN | apply below_drew1 | refine below_set ?_ GE195.out | refine below_set ?_ GE197.out) | exact HB.out)))); have n3_ := Aside0.mk (blk_below (g := gb195) (o := .cells #[.string a0_0, .int .i64 a0_1, .int .i64 a0_2, .int .u64 a0_3] 63 (0, 0)) (by (with_reducible repeat (first | refine blk_drewN ?_ _ | refine blk_drew ?_ | refine blk_alloc ?_ _)); exact BK195.out) hb); have n4_ := Aside0.mk (blk_below (g := gb197) (o := .cells #[.int .i64 a0_1, .int .i64 0, .slice Ao92 x198002_2.length co92] 48 (0, 0)) (by (with_reducible repeat (first | refine blk_drewN ?_ _ | refine blk_drew ?_ | refine blk_alloc ?_ _)); exact BK197.out) hb); have n5_ := Aside0.mk (below_step (by repeat (first | (with_reducible first | exact HB.out | apply below_alloc | apply pw_below_drewN | apply below_drew1 | refine below_set ?_ GE195.out | refine below_set ?_ GE197.out) | exact HB.out)) hb); clear HO_9; clear HO_198002; clear BK195; clear BK197; clear HB; have HO_9 := n0_; have HO_198002 := n1_; have HO216 := n2_; have BK195 := n3_; have BK197 := n4_; have HB := n5_; clear n0_ n1_ n2_ n3_ n4_ n5_; (try clear hb); (try clear hb2); (try clear hk); (try clear hi); (try clear ho0); obtain ⟨Ao95, co95, eo95⟩ := Kd.R_slice HO216.out; subst eo95; have p217 : 0 ≤ (0 : Int) := (by omega); have q217 : 0 < (t214.length : Int) := of_decide_eq_true (by first | (with_reducible assumption) | assumption); obtain ⟨ad217, e217, hx217_0, hx217_1⟩ := at_T23 (Kd.R_reads' HO216.out).2.2 0 p217 q217; cases e217; have qi217 : (0 < t214.length) = True := eq_true (by omega); (try rw [show ((0 : Int)).toNat = 0 from rfl] at hx217_0); (try rw [show 0 * 2 = 0 from rfl] at hx217_0); (try rw [Addr.add_zero'] at hx217_0); (try rw [show ((0 : Int)).toNat = 0 from rfl] at hx217_1); (try rw [show 0 * 2 = 0 from rfl] at hx217_1); (try rw [Addr.add_zero'] at hx217_1); replace p217 := eq_true p217; replace q217 := eq_true q217) | (go_at_call 27; (with_reducible refine (selvedgeref12_Leader.calls ((rd_T23 t214 0).f0) ((rd_T23 t214 0).f1) a0_1 t218 _ A70.out).mono ?_); rintro e w96 ⟨rfl, hb⟩; have n0_ := Aside0.mk (Kd.R_below (by (with_reducible repeat (first | apply Kd.R_alloc | apply Kd.R_drewN | apply Kd.R_drew)); exact HO_9.out) hb); have n1_ := Aside0.mk (Kd.R_below (by (with_reducible repeat (first | apply Kd.R_alloc | apply Kd.R_drewN | apply Kd.R_drew)); exact HO_198002.out) hb); have n2_ := Aside0.mk (Kd.R_below (by (with_reducible repeat (first | apply Kd.R_alloc | apply Kd.R_drewN | apply Kd.R_drew)); exact HO216.out) hb); have n3_ := Aside0.mk (blk_below (g := gb195) (o := .cells #[.string a0_0, .int .i64 a0_1, .int .i64 a0_2, .int .u64 a0_3] 63 (0, 0)) (by (with_reducible repeat (first | refine blk_drewN ?_ _ | refine blk_drew ?_ | refine blk_alloc ?_ _)); exact BK195.out) hb); have n4_ := Aside0.mk (blk_below (g := gb197) (o := .cells #[.int .i64 a0_1, .int .i64 0, .slice Ao92 x198002_2.length co92] 48 (0, 0)) (by (with_reducible repeat (first | refine blk_drewN ?_ _ | refine blk_drew ?_ | refine blk_alloc ?_ _)); exact BK197.out) hb); have n5_ := Aside0.mk (below_step (by repeat (first | (with_reducible first | exact HB.out | apply below_alloc | apply pw_below_drewN | apply below_drew1 | refine below_set ?_ GE195.out | refine below_set ?_ GE197.out) | exact HB.out)) hb); clear HO_9; clear HO_198002; clear HO216; clear BK195; clear BK197; clear HB; have HO_9 := n0_; have HO_198002 := n1_; have HO216 := n2_; have BK195 := n3_; have BK197 := n4_; have HB := n5_; clear n0_ n1_ n2_ n3_ n4_ n5_; (try clear hb); (try clear hb2); (try clear hk); (try clear hi)))
                        go_ret
                        exact ⟨by first | rfl | (simp [errW_none, errW_some] <;> rfl) | (simp [*, errW_none, errW_some] <;> rfl), by repeat (first | (with_reducible first | exact HB.out | apply below_alloc | apply pw_below_drewN | apply below_drew1 | refine below_set ?_ GE195.out | refine below_set ?_ GE197.out) | exact HB.out)⟩
                    · rw [if_neg c69] at H
                      exact absurd H (by simp)
                  · rw [if_neg c68] at H
                    have c68b0 : (t211 == 0) = false := beq_eq_false_iff_ne.mpr c68
                    have c68b1 : (t211 != 0) = true := bne_iff_ne.mpr c68
                    obtain rfl := Option.some.inj H
                    obtain ⟨Ao97, co97, eo97⟩ := Kd.R_slice HO_9.out
                    subst eo97
                    have hnb98 := NB197_195.out
                    have hnc98 := NB195_197.out
                    have hcz99_0 : wr.cell? ⟨gb197, 0, none⟩ = some (.int .i64 a0_1) := (blk_cell BK197.out 0).trans rfl
                    have hcz99_1 : wr.cell? ⟨gb197, 1, none⟩ = some (.int .i64 0) := (blk_cell BK197.out 1).trans rfl
                    have hcz99_2 : wr.cell? ⟨gb197, 2, none⟩ = some (u198002) := (blk_cell BK197.out 2).trans rfl
                    have hfz99_0 := blk_frozen BK197.out 0
                    have hfz99_1 := blk_frozen BK197.out 1
                    have hfz99_2 := blk_frozen BK197.out 2
                    obtain ⟨Ao100, co100, eo100⟩ := Kd.R_slice HO_198002.out
                    subst eo100
                    go_wp2_with (first | ((with_reducible refine gate_callee (f := 29) rfl ?_); refine goesL_ (some 75) rfl rfl Try.func29 (by kernel_rfl) rfl #[.agg #[.int .i64 a0_1, .int .i64 0, .slice Ao100 x198002_2.length co100], .int .i64 a0_2] rfl (by (try simp only [List.map_toArray, List.map_cons, List.map_nil]); first | done | rfl | (simp only [List.length_drop, List.length_take]; rfl)) ?_; (with_reducible refine (coin_Reveal.calls k2 a0_1 0 _ _ x198002_2 a0_2 t210 t211 _ ?side1 ?side2 A57.out).mono ?_); (case side1 => repeat (first | exact (Kd.R_reads' HO_198002.out).2.2 | (with_reducible refine Kd.C_alloc ?_ _) | (with_reducible refine Kd.C_drewN ?_ _) | (with_reducible refine Kd.C_drew ?_))); (case side2 => exact (Kd.R_reads' HO_198002.out).2.1); rintro e w101 ⟨rfl, hb⟩; refine ⟨_, rfl, ?_⟩; have n0_ := Aside0.mk (Kd.R_below (by (with_reducible repeat (first | apply Kd.R_alloc | apply Kd.R_drewN | apply Kd.R_drew)); exact HO_9.out) hb); have n1_ := Aside0.mk (Kd.R_below (by (with_reducible repeat (first | apply Kd.R_alloc | apply Kd.R_drewN | apply Kd.R_drew)); exact HO_198002.out) hb); have n2_ := Aside0.mk (blk_below (g := gb195) (o := .cells #[.string a0_0, .int .i64 a0_1, .int .i64 a0_2, .int .u64 a0_3] 63 (0, 0)) (by (with_reducible repeat (first | refine blk_drewN ?_ _ | refine blk_drew ?_ | refine blk_alloc ?_ _)); exact BK195.out) hb); have n3_ := Aside0.mk (blk_below (g := gb197) (o := .cells #[.int .i64 a0_1, .int .i64 0, .slice Ao100 x198002_2.length co100] 48 (0, 0)) (by (with_reducible repeat (first | refine blk_drewN ?_ _ | refine blk_drew ?_ | refine blk_alloc ?_ _)); exact BK197.out) hb); have n4_ := Aside0.mk (below_step (by repeat (first | (with_reducible first | exact HB.out | apply below_alloc | apply pw_below_drewN | apply below_drew1 | refine below_set ?_ GE195.out | refine below_set ?_ GE197.out) | exact HB.out)) hb); clear HO_9; clear HO_198002; clear BK195; clear BK197; clear HB; have HO_9 := n0_; have HO_198002 := n1_; have BK195 := n2_; have BK197 := n3_; have HB := n4_; clear n0_ n1_ n2_ n3_ n4_; (try clear hb); (try clear hb2); (try clear hk); (try clear hi)) | ((with_reducible refine gate_callee (f := 18) rfl ?_); refine goesL_ (some 79) rfl rfl Try.func18 (by kernel_rfl) rfl #[.int .i64 a0_1] rfl (by (try simp only [List.map_toArray, List.map_cons, List.map_nil]); first | done | rfl | (simp only [List.length_drop, List.length_take]; rfl)) ?_; (with_reducible refine (selvedgeref05_May.calls a0_1 true _ A58.out).mono ?_); rintro e w' ⟨rfl, ⟨nd, rfl⟩⟩; refine ⟨_, rfl, ?_⟩) | ((with_reducible refine gate_callee (f := 33) rfl ?_); refine goesL_ (some 86) rfl rfl Try.func33 (by kernel_rfl) rfl #[.int .i64 a0_1] rfl (by (try simp only [List.map_toArray, List.map_cons, List.map_nil]); first | done | rfl | (simp only [List.length_drop, List.length_take]; rfl)) ?_; (with_reducible refine (selvedgeref05_Weak.calls a0_1 t213 _ A60.out).mono ?_); rintro e w' ⟨rfl, ⟨nd, rfl⟩⟩; refine ⟨_, rfl, ?_⟩) | ((with_reducible refine gate_callee (f := 22) rfl ?_); refine goesL_ (some 93) rfl rfl Try.func22 (by kernel_rfl) rfl #[.string a0_0, .int .i64 a0_2, .int .i64 a0_1] rfl (by (try simp only [List.map_toArray, List.map_cons, List.map_nil]); first | done | rfl | (simp only [List.length_drop, List.length_take]; rfl)) ?_; (with_reducible refine (selvedgeref12_Deal.calls k2 a0_0 a0_2 a0_1 t214 _ A67.out).mono ?_); rintro e w102 ⟨v215, rfl, ho0, hb⟩; refine ⟨_, rfl, ?_⟩; have n0_ := Aside0.mk (Kd.R_below (by (with_reducible repeat (first | apply Kd.R_alloc | apply Kd.R_drewN | apply Kd.R_drew)); exact HO_9.out) hb); have n1_ := Aside0.mk (Kd.R_below (by (with_reducible repeat (first | apply Kd.R_alloc | apply Kd.R_drewN | apply Kd.R_drew)); exact HO_198002.out) hb); have n2_ := Aside0.mk (Kd.R_lower ho0 (below_size (by repeat (first | (with_reducible first | exact HB.out | apply below_alloc | apply pw_below_drewN | apply below_drew1 | refine below_set ?_ GE195.out | refine below_set ?_ GE197.out) | exact HB.out)))); have n3_ := Aside0.mk (blk_below (g := gb195) (o := .cells #[.string a0_0, .int .i64 a0_1, .int .i64 a0_2, .int .u64 a0_3] 63 (0, 0)) (by (with_reducible repeat (first | refine blk_drewN ?_ _ | refine blk_drew ?_ | refine blk_alloc ?_ _)); exact BK195.out) hb); have n4_ := Aside0.mk (blk_below (g := gb197) (o := .cells #[.int .i64 a0_1, .int .i64 0, .slice Ao100 x198002_2.length co100] 48 (0, 0)) (by (with_reducible repeat (first | refine blk_drewN ?_ _ | refine blk_drew ?_ | refine blk_alloc ?_ _)); exact BK197.out) hb); have n5_ := Aside0.mk (below_step (by repeat (first | (with_reducible first | exact HB.out | apply below_alloc | apply pw_below_drewN | apply below_drew1 | refine below_set ?_ GE195.out | refine below_set ?_ GE197.out) | exact HB.out)) hb); clear HO_9; clear HO_198002; clear BK195; clear BK197; clear HB; have HO_9 := n0_; have HO_198002 := n1_; have HO216 := n2_; have BK195 := n3_; have BK197 := n4_; have HB := n5_; clear n0_ n1_ n2_ n3_ n4_ n5_; (try clear hb); (try clear hb2); (try clear hk); (try clear hi); (try clear ho0)))
                    go_ret
                    exact ⟨by first | rfl | (simp [errW_none, errW_some] <;> rfl) | (simp [*, errW_none, errW_some] <;> rfl), by repeat (first | (with_reducible first | exact HB.out | apply below_alloc | apply pw_below_drewN | apply below_drew1 | refine below_set ?_ GE195.out | refine below_set ?_ GE197.out) | exact HB.out)⟩
              · replace c59 := Bool.eq_false_iff.mpr c59
                subst c59
                have H1 : (some (t211 == 1)) = some r := by rw [if_neg (show ¬ (false = true) by decide)] at H; exact H
                clear H
                have H := H1
                clear H1
                obtain rfl := Option.some.inj H
                obtain ⟨Ao103, co103, eo103⟩ := Kd.R_slice HO_9.out
                subst eo103
                have hnb104 := NB197_195.out
                have hnc104 := NB195_197.out
                have hcz105_0 : wr.cell? ⟨gb197, 0, none⟩ = some (.int .i64 a0_1) := (blk_cell BK197.out 0).trans rfl
                have hcz105_1 : wr.cell? ⟨gb197, 1, none⟩ = some (.int .i64 0) := (blk_cell BK197.out 1).trans rfl
                have hcz105_2 : wr.cell? ⟨gb197, 2, none⟩ = some (u198002) := (blk_cell BK197.out 2).trans rfl
                have hfz105_0 := blk_frozen BK197.out 0
                have hfz105_1 := blk_frozen BK197.out 1
                have hfz105_2 := blk_frozen BK197.out 2
                obtain ⟨Ao106, co106, eo106⟩ := Kd.R_slice HO_198002.out
                subst eo106
                go_wp2_with (first | ((with_reducible refine gate_callee (f := 29) rfl ?_); refine goesL_ (some 75) rfl rfl Try.func29 (by kernel_rfl) rfl #[.agg #[.int .i64 a0_1, .int .i64 0, .slice Ao106 x198002_2.length co106], .int .i64 a0_2] rfl (by (try simp only [List.map_toArray, List.map_cons, List.map_nil]); first | done | rfl | (simp only [List.length_drop, List.length_take]; rfl)) ?_; (with_reducible refine (coin_Reveal.calls k2 a0_1 0 _ _ x198002_2 a0_2 t210 t211 _ ?side1 ?side2 A57.out).mono ?_); (case side1 => repeat (first | exact (Kd.R_reads' HO_198002.out).2.2 | (with_reducible refine Kd.C_alloc ?_ _) | (with_reducible refine Kd.C_drewN ?_ _) | (with_reducible refine Kd.C_drew ?_))); (case side2 => exact (Kd.R_reads' HO_198002.out).2.1); rintro e w107 ⟨rfl, hb⟩; refine ⟨_, rfl, ?_⟩; have n0_ := Aside0.mk (Kd.R_below (by (with_reducible repeat (first | apply Kd.R_alloc | apply Kd.R_drewN | apply Kd.R_drew)); exact HO_9.out) hb); have n1_ := Aside0.mk (Kd.R_below (by (with_reducible repeat (first | apply Kd.R_alloc | apply Kd.R_drewN | apply Kd.R_drew)); exact HO_198002.out) hb); have n2_ := Aside0.mk (blk_below (g := gb195) (o := .cells #[.string a0_0, .int .i64 a0_1, .int .i64 a0_2, .int .u64 a0_3] 63 (0, 0)) (by (with_reducible repeat (first | refine blk_drewN ?_ _ | refine blk_drew ?_ | refine blk_alloc ?_ _)); exact BK195.out) hb); have n3_ := Aside0.mk (blk_below (g := gb197) (o := .cells #[.int .i64 a0_1, .int .i64 0, .slice Ao106 x198002_2.length co106] 48 (0, 0)) (by (with_reducible repeat (first | refine blk_drewN ?_ _ | refine blk_drew ?_ | refine blk_alloc ?_ _)); exact BK197.out) hb); have n4_ := Aside0.mk (below_step (by repeat (first | (with_reducible first | exact HB.out | apply below_alloc | apply pw_below_drewN | apply below_drew1 | refine below_set ?_ GE195.out | refine below_set ?_ GE197.out) | exact HB.out)) hb); clear HO_9; clear HO_198002; clear BK195; clear BK197; clear HB; have HO_9 := n0_; have HO_198002 := n1_; have BK195 := n2_; have BK197 := n3_; have HB := n4_; clear n0_ n1_ n2_ n3_ n4_; (try clear hb); (try clear hb2); (try clear hk); (try clear hi)) | ((with_reducible refine gate_callee (f := 18) rfl ?_); refine goesL_ (some 79) rfl rfl Try.func18 (by kernel_rfl) rfl #[.int .i64 a0_1] rfl (by (try simp only [List.map_toArray, List.map_cons, List.map_nil]); first | done | rfl | (simp only [List.length_drop, List.length_take]; rfl)) ?_; (with_reducible refine (selvedgeref05_May.calls a0_1 false _ A58.out).mono ?_); rintro e w' ⟨rfl, ⟨nd, rfl⟩⟩; refine ⟨_, rfl, ?_⟩))
                go_ret
                exact ⟨by first | rfl | (simp [errW_none, errW_some] <;> rfl) | (simp [*, errW_none, errW_some] <;> rfl), by repeat (first | (with_reducible first | exact HB.out | apply below_alloc | apply pw_below_drewN | apply below_drew1 | refine below_set ?_ GE195.out | refine below_set ?_ GE197.out) | exact HB.out)⟩

end Go.Proofs.Ytdppmkcahfjceaa.PCoinOne
