-- written by a program of this session (pp.py), out of the kit's print and this session's contracts
import Derived.Test.YtefdokolbdnjnaaPCutFeedsx0
import Derived.Test.YtefdokolbdnjnaaVCutFeedsPe
namespace Go.Proofs.Ytefdokolbdnjnaa.PCutFeeds
open Go.RowKit Go.Proofs.YtefdokolbdnjnaaW.PrintWords Go.Proofs.YtefdokolbdnjnaaW.PrintLast Go.Proofs.YtefdokolbdnjnaaW.PrintMore
attribute [local go_sem] max2_int min2_int max_two min_two max_three min_three max_four min_four   -- for this text's walks alone
set_option linter.unusedVariables false
set_option linter.unusedSimpArgs false

/-! ### selvedgeref01_Same: function 49 -/
def selvedgeref01_Same.l0 : Nat → List ByteArray → List ByteArray → Int → Option (Bool)
 | 0, _, _, _ => none
 | k + 1, x0, x1, x5 => if x5 < (x0.length : Int) then (if 0 ≤ x5 then (if x5 < (x1.length : Int) then (if (rdOf ByteArray.empty x0 x5).toList = (rdOf ByteArray.empty x1 x5).toList then (selvedgeref01_Same.l0 k x0 x1 (wrap64 (x5 + 1))) else (some false)) else (none)) else (none)) else (some true)
def selvedgeref01_Same.f (k : Nat) (l0 : List ByteArray) (l1 : List ByteArray) : Option (Bool) := if (l0.length : Int) = (l1.length : Int) then (selvedgeref01_Same.l0 k l0 l1 0) else (some false)
theorem selvedgeref01_Same.mono_l : ∀ k, (∀ y0 y1 y2, LeO (selvedgeref01_Same.l0 k y0 y1 y2) (selvedgeref01_Same.l0 (k + 1) y0 y1 y2))
 | 0 => fun _ _ _ r h => by simp [selvedgeref01_Same.l0] at h
 | k + 1 => by
  have ih0 := selvedgeref01_Same.mono_l k
  ·
   intro y0 y1 y2
   unfold selvedgeref01_Same.l0
   repeat' first
   | (with_reducible exact ih0 _ _ _)
   | (with_reducible exact LeO.refl _)
   | (with_reducible exact LeO.none _)
   | (with_reducible refine LeO.ite ?_ ?_)
   | (with_reducible refine LeO.bind ?_ (fun _ => ?_))
   | exact ih0 _ _ _
   | exact LeO.none _
   | refine LeO.ite ?_ ?_
   | refine LeO.bind ?_ (fun _ => ?_)
theorem selvedgeref01_Same.mono : ∀ a0 a1 k, LeO (selvedgeref01_Same.f k a0 a1) (selvedgeref01_Same.f (k + 1) a0 a1) := by
 intro a0 a1 k
 have ih0 := selvedgeref01_Same.mono_l k
 unfold selvedgeref01_Same.f
 repeat' first
   | (with_reducible exact ih0 _ _ _)
   | (with_reducible exact LeO.refl _)
   | (with_reducible exact LeO.none _)
   | (with_reducible refine LeO.ite ?_ ?_)
   | (with_reducible refine LeO.bind ?_ (fun _ => ?_))
   | exact ih0 _ _ _
   | exact LeO.none _
   | refine LeO.ite ?_ ?_
   | refine LeO.bind ?_ (fun _ => ?_)
set_option maxHeartbeats 8000000 in
set_option maxRecDepth 100000 in
theorem selvedgeref01_Same.calls (k : Nat) (A0 : Option Addr) (c0 : Nat) (l0 : List ByteArray) (A1 : Option Addr) (c1 : Nat) (l1 : List ByteArray) (r : Bool) (w : World) (hr0 : Kd.C Kd.string w A0 l0.length l0) (hc0 : l0.length ≤ c0) (hr1 : Kd.C Kd.string w A1 l1.length l1) (hc1 : l1.length ≤ c1) (h : selvedgeref01_Same.f k l0 l1 = some r) :
  Calls Try.prog 49 #[.slice A0 l0.length c0, .slice A1 l1.length c1] w fun e w' => e = .returned (.bool r) ∧ Drawn0 w w' := by
 have HR0 := Aside0.mk hr0
 have HC0 := Aside0.mk hc0
 clear hr0 hc0
 have HR1 := Aside0.mk hr1
 have HC1 := Aside0.mk hc1
 clear hr1 hc1
 have H : (if (l0.length : Int) = (l1.length : Int) then (selvedgeref01_Same.l0 k l0 l1 0) else (some false)) = some r := h
 clear h
 by_cases c3 : (l0.length : Int) = (l1.length : Int)
 ·
  rw [if_pos c3] at H
  have c3b0 : ((l0.length : Int) == (l1.length : Int)) = true := beq_iff_eq.mpr c3
  have c3b1 : ((l0.length : Int) != (l1.length : Int)) = false := bne_eq_false_iff_eq.mpr c3
  have c3b2 : (l0.length == l1.length) = true := by first | simpa using c3 | (simp at c3 ⊢; omega)
  clear c3
  have H' := Aside0.mk H
  clear H
  go_enter Try.func49, Try.ntmps49
  go_wp2
  repeat (go_quiet (fail); try go_wp2)
  go_loopg [5] k (fun kq v5 w' => ∃ (x5_1 : Int), v5 = .int .i64 x5_1 ∧ Aside0 (selvedgeref01_Same.l0 kq l0 l1 x5_1 = some r) ∧ Aside0 (kq ≤ k) ∧ Drawn0 w w')
  case atStart => exact ⟨(0), (by first | rfl | (simp; done) | (simp [*]; done)), H', ⟨Nat.le_refl _⟩, by repeat (first | exact Drawn0.refl _ | apply Drawn0.step)⟩
  case round =>
   clear H'
   try clear c1
   try clear p2
   try clear c3
   try clear c3b0
   try clear c3b1
   try clear c3b2
   obtain ⟨x5_1, rfl, HA, HK1, ⟨m1, rfl⟩⟩ := hrel
   cases gk with
   | zero => exact absurd HA.out (by simp [selvedgeref01_Same.l0])
   | succ k1 =>
    have H := HA.out
    clear HA
    simp only [selvedgeref01_Same.l0] at H
    by_cases c4 : x5_1 < (l0.length : Int)
    ·
     rw [if_pos c4] at H
     have c4b0 : decide (x5_1 < (l0.length : Int)) = true := decide_eq_true c4
     clear c4
     by_cases c5 : 0 ≤ x5_1
     ·
      rw [if_pos c5] at H
      have c5b0 : decide (0 ≤ x5_1) = true := decide_eq_true c5
      clear c5
      by_cases c6 : x5_1 < (l1.length : Int)
      ·
       rw [if_pos c6] at H
       have c6b0 : decide (x5_1 < (l1.length : Int)) = true := decide_eq_true c6
       clear c6
       by_cases c7 : (rdOf ByteArray.empty l0 x5_1).toList = (rdOf ByteArray.empty l1 x5_1).toList
       ·
        rw [if_pos c7] at H
        have c7b0 : ((rdOf ByteArray.empty l0 x5_1).toList == (rdOf ByteArray.empty l1 x5_1).toList) = true := beq_iff_eq.mpr c7
        have c7b1 : ((rdOf ByteArray.empty l0 x5_1).toList != (rdOf ByteArray.empty l1 x5_1).toList) = false := bne_eq_false_iff_eq.mpr c7
        clear c7
        have H' := Aside0.mk H
        clear H
        have p211 : 0 ≤ (x5_1 : Int) := of_decide_eq_true (by first | (with_reducible assumption) | assumption)
        have q211 : x5_1 < (l0.length : Int) := of_decide_eq_true (by first | (with_reducible assumption) | assumption)
        obtain ⟨ad211, e211, hx211_0⟩ := Kd.at_string HR0.out x5_1 p211 q211
        cases e211
        replace p211 := eq_true p211
        replace q211 := eq_true q211
        have p212 : 0 ≤ (x5_1 : Int) := of_decide_eq_true (by first | (with_reducible assumption) | assumption)
        have q212 : x5_1 < (l1.length : Int) := of_decide_eq_true (by first | (with_reducible assumption) | assumption)
        obtain ⟨ad212, e212, hx212_0⟩ := Kd.at_string HR1.out x5_1 p212 q212
        cases e212
        replace p212 := eq_true p212
        replace q212 := eq_true q212
        go_wp2
        repeat (go_quiet (fail); try go_wp2)
        go_roundg k1
        case measure => have := HK1.out; omega
        case rel => exact ⟨(wrap64 (x5_1 + 1)), (by first | rfl | (simp; done) | (simp [*]; done)), H', ⟨by have := HK1.out; omega⟩, by repeat (first | exact Drawn0.refl _ | apply Drawn0.step)⟩
       ·
        rw [if_neg c7] at H
        have c7b0 : ((rdOf ByteArray.empty l0 x5_1).toList == (rdOf ByteArray.empty l1 x5_1).toList) = false := beq_eq_false_iff_ne.mpr c7
        have c7b1 : ((rdOf ByteArray.empty l0 x5_1).toList != (rdOf ByteArray.empty l1 x5_1).toList) = true := bne_iff_ne.mpr c7
        obtain rfl := Option.some.inj H
        have p211 : 0 ≤ (x5_1 : Int) := of_decide_eq_true (by first | (with_reducible assumption) | assumption)
        have q211 : x5_1 < (l0.length : Int) := of_decide_eq_true (by first | (with_reducible assumption) | assumption)
        obtain ⟨ad211, e211, hx211_0⟩ := Kd.at_string HR0.out x5_1 p211 q211
        cases e211
        replace p211 := eq_true p211
        replace q211 := eq_true q211
        have p212 : 0 ≤ (x5_1 : Int) := of_decide_eq_true (by first | (with_reducible assumption) | assumption)
        have q212 : x5_1 < (l1.length : Int) := of_decide_eq_true (by first | (with_reducible assumption) | assumption)
        obtain ⟨ad212, e212, hx212_0⟩ := Kd.at_string HR1.out x5_1 p212 q212
        cases e212
        replace p212 := eq_true p212
        replace q212 := eq_true q212
        go_wp2
        repeat (go_quiet (fail); try go_wp2)
        go_ret
        exact ⟨by first | rfl | (simp; done) | (simp [*]; done), by repeat (first | exact Drawn0.refl _ | apply Drawn0.step)⟩
      ·
       rw [if_neg c6] at H
       exact absurd H (by simp)
     ·
      rw [if_neg c5] at H
      exact absurd H (by simp)
    ·
     rw [if_neg c4] at H
     have c4b0 : decide (x5_1 < (l0.length : Int)) = false := decide_eq_false c4
     clear c4
     obtain rfl := Option.some.inj H
     go_wp2
     repeat (go_quiet (fail); try go_wp2)
     go_ret
     exact ⟨by first | rfl | (simp; done) | (simp [*]; done), by repeat (first | exact Drawn0.refl _ | apply Drawn0.step)⟩
 ·
  rw [if_neg c3] at H
  have c3b0 : ((l0.length : Int) == (l1.length : Int)) = false := beq_eq_false_iff_ne.mpr c3
  have c3b1 : ((l0.length : Int) != (l1.length : Int)) = true := bne_iff_ne.mpr c3
  have c3b2 : (l0.length == l1.length) = false := by first | simpa using c3 | (simp at c3 ⊢; omega)
  obtain rfl := Option.some.inj H
  go_enter Try.func49, Try.ntmps49
  go_wp2
  repeat (go_quiet (fail); try go_wp2)
  go_ret
  exact ⟨by first | rfl | (simp; done) | (simp [*]; done), by repeat (first | exact Drawn0.refl _ | apply Drawn0.step)⟩

/-! ### selvedgeref15_Same: function 42 -/
def selvedgeref15_Same.f (k : Nat) (a0_0 : Int) (a0_1 : ByteArray) (l0_2 : List ByteArray) (a1_0 : Int) (a1_1 : ByteArray) (l1_2 : List ByteArray) : Option (Bool) := (selvedgeref01_Same.f k l0_2 l1_2).bind fun t215 => (if t215 = true then (if a0_0 = a1_0 then (some (a0_1.toList == a1_1.toList)) else (some false)) else (some false))
theorem selvedgeref15_Same.mono : ∀ a0 a1 a2 a3 a4 a5 k, LeO (selvedgeref15_Same.f k a0 a1 a2 a3 a4 a5) (selvedgeref15_Same.f (k + 1) a0 a1 a2 a3 a4 a5) := by
 intro a0 a1 a2 a3 a4 a5 k
 unfold selvedgeref15_Same.f
 repeat' first
   | (with_reducible exact selvedgeref01_Same.mono _ _ _)
   | (with_reducible exact LeO.refl _)
   | (with_reducible exact LeO.none _)
   | (with_reducible refine LeO.ite ?_ ?_)
   | (with_reducible refine LeO.bind ?_ (fun _ => ?_))
   | exact selvedgeref01_Same.mono _ _ _
   | exact LeO.none _
   | refine LeO.ite ?_ ?_
   | refine LeO.bind ?_ (fun _ => ?_)
set_option maxHeartbeats 8000000 in
set_option maxRecDepth 100000 in
theorem selvedgeref15_Same.calls (k : Nat) (a0_0 : Int) (a0_1 : ByteArray) (A0_2 : Option Addr) (c0_2 : Nat) (l0_2 : List ByteArray) (a1_0 : Int) (a1_1 : ByteArray) (A1_2 : Option Addr) (c1_2 : Nat) (l1_2 : List ByteArray) (r : Bool) (w : World) (hr0_2 : Kd.C Kd.string w A0_2 l0_2.length l0_2) (hc0_2 : l0_2.length ≤ c0_2) (hr1_2 : Kd.C Kd.string w A1_2 l1_2.length l1_2) (hc1_2 : l1_2.length ≤ c1_2) (h : selvedgeref15_Same.f k a0_0 a0_1 l0_2 a1_0 a1_1 l1_2 = some r) :
  Calls Try.prog 42 #[.agg #[.int .i64 a0_0, .string a0_1, .slice A0_2 l0_2.length c0_2], .agg #[.int .i64 a1_0, .string a1_1, .slice A1_2 l1_2.length c1_2]] w fun e w' => e = .returned (.bool r) ∧ Below w.heap.size w w' := by
 have hu39 := Try.underlying39
 have HR0_2 := Aside0.mk hr0_2
 have HC0_2 := Aside0.mk hc0_2
 clear hr0_2 hc0_2
 have HR1_2 := Aside0.mk hr1_2
 have HC1_2 := Aside0.mk hc1_2
 clear hr1_2 hc1_2
 have HB := Aside0.mk (Below.refl w.heap.size w)
 have H : ((selvedgeref01_Same.f k l0_2 l1_2).bind fun t215 => (if t215 = true then (if a0_0 = a1_0 then (some (a0_1.toList == a1_1.toList)) else (some false)) else (some false))) = some r := h
 clear h
 replace H := Option.bind_eq_some_iff.mp H
 obtain ⟨t215, A30, H⟩ := H
 replace H : (if t215 = true then (if a0_0 = a1_0 then (some (a0_1.toList == a1_1.toList)) else (some false)) else (some false)) = some r := H
 have A3 := Aside0.mk A30
 clear A30
 by_cases c4 : t215 = true
 ·
  subst c4
  have H1 : (if a0_0 = a1_0 then (some (a0_1.toList == a1_1.toList)) else (some false)) = some r := by rw [if_pos rfl] at H; exact H
  clear H
  have H := H1
  clear H1
  by_cases c5 : a0_0 = a1_0
  ·
   rw [if_pos c5] at H
   have c5b0 : (a0_0 == a1_0) = true := beq_iff_eq.mpr c5
   have c5b1 : (a0_0 != a1_0) = false := bne_eq_false_iff_eq.mpr c5
   clear c5
   obtain rfl := Option.some.inj H
   go_enter Try.func42, Try.ntmps42
   go_wp2_with (first | ((with_reducible refine gate_dst (N := 2) rfl ?_); refine box_event ?hg (N := 2) ?hd (cs := #[.int .i64 a0_0, .string a0_1, .slice A0_2 l0_2.length c0_2]) (t := 39) ?hr ?_; (case hd => rfl); (case hg => rfl); (case hr => first | (go_simp; done) | (go_simp; rfl)); intro gb213 hg w6 hbox hb; have n0_ := Aside0.mk (below_step (by repeat (first | (with_reducible first | exact HB.out | apply below_alloc | apply pw_below_drewN | apply below_drew1) | exact HB.out)) hb); have n1_ := Aside0.mk (hbox); have n2_ := Aside0.mk ((by rw [hg]; exact (below_size (by repeat (first | (with_reducible first | exact HB.out | apply below_alloc | apply pw_below_drewN | apply below_drew1) | exact HB.out))) : w.heap.size ≤ gb213)); have n3_ := Aside0.mk ((by rw [hg]; exact (below_size (by repeat (first | (with_reducible first | exact HB.out | apply below_alloc | apply pw_below_drewN | apply below_drew1) | exact HB.out))) : w.heap.size ≤ gb213)); clear HB; have HB := n0_; have BK213 := n1_; have GW213 := n2_; have GE213 := n3_; clear n0_ n1_ n2_ n3_; clear hb hbox hg) | ((with_reducible refine gate_dst (N := 3) rfl ?_); refine box_event ?hg (N := 3) ?hd (cs := #[.int .i64 a1_0, .string a1_1, .slice A1_2 l1_2.length c1_2]) (t := 39) ?hr ?_; (case hd => rfl); (case hg => rfl); (case hr => first | (go_simp; done) | (go_simp; rfl)); intro gb214 hg w7 hbox hb; have n0_ := Aside0.mk (blk_below (g := gb213) (o := .cells #[.int .i64 a0_0, .string a0_1, .slice A0_2 l0_2.length c0_2] 39 (0, 0)) (pB BK213.out) hb); have n1_ := Aside0.mk (below_step (by repeat (first | (with_reducible first | exact HB.out | apply below_alloc | apply pw_below_drewN | apply below_drew1 | refine below_set ?_ GE213.out) | exact HB.out)) hb); have n2_ := Aside0.mk (hbox); have n3_ := Aside0.mk ((by rw [hg]; exact (below_size (by repeat (first | (with_reducible first | exact HB.out | apply below_alloc | apply pw_below_drewN | apply below_drew1 | refine below_set ?_ GE213.out) | exact HB.out))) : w.heap.size ≤ gb214)); have n4_ := Aside0.mk ((by rw [hg]; exact (below_size (by repeat (first | (with_reducible first | exact HB.out | apply below_alloc | apply pw_below_drewN | apply below_drew1 | refine below_set ?_ GE213.out) | exact HB.out))) : w.heap.size ≤ gb214)); have n5_ := Aside0.mk ((by rw [hg]; exact Nat.ne_of_lt (blk_lt (g := gb213) (o := .cells #[.int .i64 a0_0, .string a0_1, .slice A0_2 l0_2.length c0_2] 39 (0, 0)) (pB BK213.out)) : gb213 ≠ gb214)); have n6_ := Aside0.mk ((by rw [hg]; exact Nat.ne_of_gt (blk_lt (g := gb213) (o := .cells #[.int .i64 a0_0, .string a0_1, .slice A0_2 l0_2.length c0_2] 39 (0, 0)) (pB BK213.out)) : gb214 ≠ gb213)); clear BK213; clear HB; have BK213 := n0_; have HB := n1_; have BK214 := n2_; have GW214 := n3_; have GE214 := n4_; have NB213_214 := n5_; have NB214_213 := n6_; clear n0_ n1_ n2_ n3_ n4_ n5_ n6_; clear hb hbox hg; have hnb8 := NB213_214.out; have hnc8 := NB214_213.out; have hcz9_0 : w7.cell? ⟨gb213, 0, none⟩ = some (.int .i64 a0_0) := (blk_cell BK213.out 0).trans rfl; have hcz9_1 : w7.cell? ⟨gb213, 1, none⟩ = some (.string a0_1) := (blk_cell BK213.out 1).trans rfl; have hcz9_2 : w7.cell? ⟨gb213, 2, none⟩ = some (.slice A0_2 l0_2.length c0_2) := (blk_cell BK213.out 2).trans rfl; have hfz9_0 := blk_frozen BK213.out 0; have hfz9_1 := blk_frozen BK213.out 1; have hfz9_2 := blk_frozen BK213.out 2; have hcz10_0 : w7.cell? ⟨gb214, 0, none⟩ = some (.int .i64 a1_0) := (blk_cell BK214.out 0).trans rfl; have hcz10_1 : w7.cell? ⟨gb214, 1, none⟩ = some (.string a1_1) := (blk_cell BK214.out 1).trans rfl; have hcz10_2 : w7.cell? ⟨gb214, 2, none⟩ = some (.slice A1_2 l1_2.length c1_2) := (blk_cell BK214.out 2).trans rfl; have hfz10_0 := blk_frozen BK214.out 0; have hfz10_1 := blk_frozen BK214.out 1; have hfz10_2 := blk_frozen BK214.out 2) | ((with_reducible refine gate_callee (f := 49) rfl ?_); refine goesL_ (some 10) rfl rfl Try.func49 (by kernel_rfl) rfl #[.slice A0_2 l0_2.length c0_2, .slice A1_2 l1_2.length c1_2] rfl (by (try simp only [List.map_toArray, List.map_cons, List.map_nil]); first | done | rfl | (simp only [List.length_drop, List.length_take]; rfl)) ?_; (with_reducible refine (selvedgeref01_Same.calls k _ _ l0_2 _ _ l1_2 true _ ?side1 ?side2 ?side3 ?side4 A3.out).mono ?_); (case side1 => repeat (first | exact (Kd.C_below HR0_2.out HB.out) | (with_reducible refine Kd.C_alloc ?_ _) | (with_reducible refine Kd.C_drewN ?_ _) | (with_reducible refine Kd.C_drew ?_))); (case side2 => exact HC0_2.out); (case side3 => repeat (first | exact (Kd.C_below HR1_2.out HB.out) | (with_reducible refine Kd.C_alloc ?_ _) | (with_reducible refine Kd.C_drewN ?_ _) | (with_reducible refine Kd.C_drew ?_))); (case side4 => exact HC1_2.out); rintro e w' ⟨rfl, ⟨nd, rfl⟩⟩; refine ⟨_, rfl, ?_⟩))
   go_ret
   exact ⟨by first | rfl | (simp [errW_none, errW_some] <;> rfl) | (simp [*, errW_none, errW_some] <;> rfl), by repeat (first | (with_reducible first | exact HB.out | apply below_alloc | apply pw_below_drewN | apply below_drew1 | refine below_set ?_ GE213.out | refine below_set ?_ GE214.out) | exact HB.out)⟩
  ·
   rw [if_neg c5] at H
   have c5b0 : (a0_0 == a1_0) = false := beq_eq_false_iff_ne.mpr c5
   have c5b1 : (a0_0 != a1_0) = true := bne_iff_ne.mpr c5
   obtain rfl := Option.some.inj H
   go_enter Try.func42, Try.ntmps42
   go_wp2_with (first | ((with_reducible refine gate_dst (N := 2) rfl ?_); refine box_event ?hg (N := 2) ?hd (cs := #[.int .i64 a0_0, .string a0_1, .slice A0_2 l0_2.length c0_2]) (t := 39) ?hr ?_; (case hd => rfl); (case hg => rfl); (case hr => first | (go_simp; done) | (go_simp; rfl)); intro gb213 hg w11 hbox hb; have n0_ := Aside0.mk (below_step (by repeat (first | (with_reducible first | exact HB.out | apply below_alloc | apply pw_below_drewN | apply below_drew1) | exact HB.out)) hb); have n1_ := Aside0.mk (hbox); have n2_ := Aside0.mk ((by rw [hg]; exact (below_size (by repeat (first | (with_reducible first | exact HB.out | apply below_alloc | apply pw_below_drewN | apply below_drew1) | exact HB.out))) : w.heap.size ≤ gb213)); have n3_ := Aside0.mk ((by rw [hg]; exact (below_size (by repeat (first | (with_reducible first | exact HB.out | apply below_alloc | apply pw_below_drewN | apply below_drew1) | exact HB.out))) : w.heap.size ≤ gb213)); clear HB; have HB := n0_; have BK213 := n1_; have GW213 := n2_; have GE213 := n3_; clear n0_ n1_ n2_ n3_; clear hb hbox hg) | ((with_reducible refine gate_dst (N := 3) rfl ?_); refine box_event ?hg (N := 3) ?hd (cs := #[.int .i64 a1_0, .string a1_1, .slice A1_2 l1_2.length c1_2]) (t := 39) ?hr ?_; (case hd => rfl); (case hg => rfl); (case hr => first | (go_simp; done) | (go_simp; rfl)); intro gb214 hg w12 hbox hb; have n0_ := Aside0.mk (blk_below (g := gb213) (o := .cells #[.int .i64 a0_0, .string a0_1, .slice A0_2 l0_2.length c0_2] 39 (0, 0)) (pB BK213.out) hb); have n1_ := Aside0.mk (below_step (by repeat (first | (with_reducible first | exact HB.out | apply below_alloc | apply pw_below_drewN | apply below_drew1 | refine below_set ?_ GE213.out) | exact HB.out)) hb); have n2_ := Aside0.mk (hbox); have n3_ := Aside0.mk ((by rw [hg]; exact (below_size (by repeat (first | (with_reducible first | exact HB.out | apply below_alloc | apply pw_below_drewN | apply below_drew1 | refine below_set ?_ GE213.out) | exact HB.out))) : w.heap.size ≤ gb214)); have n4_ := Aside0.mk ((by rw [hg]; exact (below_size (by repeat (first | (with_reducible first | exact HB.out | apply below_alloc | apply pw_below_drewN | apply below_drew1 | refine below_set ?_ GE213.out) | exact HB.out))) : w.heap.size ≤ gb214)); have n5_ := Aside0.mk ((by rw [hg]; exact Nat.ne_of_lt (blk_lt (g := gb213) (o := .cells #[.int .i64 a0_0, .string a0_1, .slice A0_2 l0_2.length c0_2] 39 (0, 0)) (pB BK213.out)) : gb213 ≠ gb214)); have n6_ := Aside0.mk ((by rw [hg]; exact Nat.ne_of_gt (blk_lt (g := gb213) (o := .cells #[.int .i64 a0_0, .string a0_1, .slice A0_2 l0_2.length c0_2] 39 (0, 0)) (pB BK213.out)) : gb214 ≠ gb213)); clear BK213; clear HB; have BK213 := n0_; have HB := n1_; have BK214 := n2_; have GW214 := n3_; have GE214 := n4_; have NB213_214 := n5_; have NB214_213 := n6_; clear n0_ n1_ n2_ n3_ n4_ n5_ n6_; clear hb hbox hg; have hnb13 := NB213_214.out; have hnc13 := NB214_213.out; have hcz14_0 : w12.cell? ⟨gb213, 0, none⟩ = some (.int .i64 a0_0) := (blk_cell BK213.out 0).trans rfl; have hcz14_1 : w12.cell? ⟨gb213, 1, none⟩ = some (.string a0_1) := (blk_cell BK213.out 1).trans rfl; have hcz14_2 : w12.cell? ⟨gb213, 2, none⟩ = some (.slice A0_2 l0_2.length c0_2) := (blk_cell BK213.out 2).trans rfl; have hfz14_0 := blk_frozen BK213.out 0; have hfz14_1 := blk_frozen BK213.out 1; have hfz14_2 := blk_frozen BK213.out 2; have hcz15_0 : w12.cell? ⟨gb214, 0, none⟩ = some (.int .i64 a1_0) := (blk_cell BK214.out 0).trans rfl; have hcz15_1 : w12.cell? ⟨gb214, 1, none⟩ = some (.string a1_1) := (blk_cell BK214.out 1).trans rfl; have hcz15_2 : w12.cell? ⟨gb214, 2, none⟩ = some (.slice A1_2 l1_2.length c1_2) := (blk_cell BK214.out 2).trans rfl; have hfz15_0 := blk_frozen BK214.out 0; have hfz15_1 := blk_frozen BK214.out 1; have hfz15_2 := blk_frozen BK214.out 2) | ((with_reducible refine gate_callee (f := 49) rfl ?_); refine goesL_ (some 10) rfl rfl Try.func49 (by kernel_rfl) rfl #[.slice A0_2 l0_2.length c0_2, .slice A1_2 l1_2.length c1_2] rfl (by (try simp only [List.map_toArray, List.map_cons, List.map_nil]); first | done | rfl | (simp only [List.length_drop, List.length_take]; rfl)) ?_; (with_reducible refine (selvedgeref01_Same.calls k _ _ l0_2 _ _ l1_2 true _ ?side1 ?side2 ?side3 ?side4 A3.out).mono ?_); (case side1 => repeat (first | exact (Kd.C_below HR0_2.out HB.out) | (with_reducible refine Kd.C_alloc ?_ _) | (with_reducible refine Kd.C_drewN ?_ _) | (with_reducible refine Kd.C_drew ?_))); (case side2 => exact HC0_2.out); (case side3 => repeat (first | exact (Kd.C_below HR1_2.out HB.out) | (with_reducible refine Kd.C_alloc ?_ _) | (with_reducible refine Kd.C_drewN ?_ _) | (with_reducible refine Kd.C_drew ?_))); (case side4 => exact HC1_2.out); rintro e w' ⟨rfl, ⟨nd, rfl⟩⟩; refine ⟨_, rfl, ?_⟩))
   go_ret
   exact ⟨by first | rfl | (simp [errW_none, errW_some] <;> rfl) | (simp [*, errW_none, errW_some] <;> rfl), by repeat (first | (with_reducible first | exact HB.out | apply below_alloc | apply pw_below_drewN | apply below_drew1 | refine below_set ?_ GE213.out | refine below_set ?_ GE214.out) | exact HB.out)⟩
 ·
  replace c4 := Bool.eq_false_iff.mpr c4
  subst c4
  have H1 : (some false) = some r := by rw [if_neg (show ¬ (false = true) by decide)] at H; exact H
  clear H
  have H := H1
  clear H1
  obtain rfl := Option.some.inj H
  go_enter Try.func42, Try.ntmps42
  go_wp2_with (first | ((with_reducible refine gate_dst (N := 2) rfl ?_); refine box_event ?hg (N := 2) ?hd (cs := #[.int .i64 a0_0, .string a0_1, .slice A0_2 l0_2.length c0_2]) (t := 39) ?hr ?_; (case hd => rfl); (case hg => rfl); (case hr => first | (go_simp; done) | (go_simp; rfl)); intro gb213 hg w16 hbox hb; have n0_ := Aside0.mk (below_step (by repeat (first | (with_reducible first | exact HB.out | apply below_alloc | apply pw_below_drewN | apply below_drew1) | exact HB.out)) hb); have n1_ := Aside0.mk (hbox); have n2_ := Aside0.mk ((by rw [hg]; exact (below_size (by repeat (first | (with_reducible first | exact HB.out | apply below_alloc | apply pw_below_drewN | apply below_drew1) | exact HB.out))) : w.heap.size ≤ gb213)); have n3_ := Aside0.mk ((by rw [hg]; exact (below_size (by repeat (first | (with_reducible first | exact HB.out | apply below_alloc | apply pw_below_drewN | apply below_drew1) | exact HB.out))) : w.heap.size ≤ gb213)); clear HB; have HB := n0_; have BK213 := n1_; have GW213 := n2_; have GE213 := n3_; clear n0_ n1_ n2_ n3_; clear hb hbox hg) | ((with_reducible refine gate_dst (N := 3) rfl ?_); refine box_event ?hg (N := 3) ?hd (cs := #[.int .i64 a1_0, .string a1_1, .slice A1_2 l1_2.length c1_2]) (t := 39) ?hr ?_; (case hd => rfl); (case hg => rfl); (case hr => first | (go_simp; done) | (go_simp; rfl)); intro gb214 hg w17 hbox hb; have n0_ := Aside0.mk (blk_below (g := gb213) (o := .cells #[.int .i64 a0_0, .string a0_1, .slice A0_2 l0_2.length c0_2] 39 (0, 0)) (pB BK213.out) hb); have n1_ := Aside0.mk (below_step (by repeat (first | (with_reducible first | exact HB.out | apply below_alloc | apply pw_below_drewN | apply below_drew1 | refine below_set ?_ GE213.out) | exact HB.out)) hb); have n2_ := Aside0.mk (hbox); have n3_ := Aside0.mk ((by rw [hg]; exact (below_size (by repeat (first | (with_reducible first | exact HB.out | apply below_alloc | apply pw_below_drewN | apply below_drew1 | refine below_set ?_ GE213.out) | exact HB.out))) : w.heap.size ≤ gb214)); have n4_ := Aside0.mk ((by rw [hg]; exact (below_size (by repeat (first | (with_reducible first | exact HB.out | apply below_alloc | apply pw_below_drewN | apply below_drew1 | refine below_set ?_ GE213.out) | exact HB.out))) : w.heap.size ≤ gb214)); have n5_ := Aside0.mk ((by rw [hg]; exact Nat.ne_of_lt (blk_lt (g := gb213) (o := .cells #[.int .i64 a0_0, .string a0_1, .slice A0_2 l0_2.length c0_2] 39 (0, 0)) (pB BK213.out)) : gb213 ≠ gb214)); have n6_ := Aside0.mk ((by rw [hg]; exact Nat.ne_of_gt (blk_lt (g := gb213) (o := .cells #[.int .i64 a0_0, .string a0_1, .slice A0_2 l0_2.length c0_2] 39 (0, 0)) (pB BK213.out)) : gb214 ≠ gb213)); clear BK213; clear HB; have BK213 := n0_; have HB := n1_; have BK214 := n2_; have GW214 := n3_; have GE214 := n4_; have NB213_214 := n5_; have NB214_213 := n6_; clear n0_ n1_ n2_ n3_ n4_ n5_ n6_; clear hb hbox hg; have hnb18 := NB213_214.out; have hnc18 := NB214_213.out; have hcz19_0 : w17.cell? ⟨gb213, 0, none⟩ = some (.int .i64 a0_0) := (blk_cell BK213.out 0).trans rfl; have hcz19_1 : w17.cell? ⟨gb213, 1, none⟩ = some (.string a0_1) := (blk_cell BK213.out 1).trans rfl; have hcz19_2 : w17.cell? ⟨gb213, 2, none⟩ = some (.slice A0_2 l0_2.length c0_2) := (blk_cell BK213.out 2).trans rfl; have hfz19_0 := blk_frozen BK213.out 0; have hfz19_1 := blk_frozen BK213.out 1; have hfz19_2 := blk_frozen BK213.out 2; have hcz20_0 : w17.cell? ⟨gb214, 0, none⟩ = some (.int .i64 a1_0) := (blk_cell BK214.out 0).trans rfl; have hcz20_1 : w17.cell? ⟨gb214, 1, none⟩ = some (.string a1_1) := (blk_cell BK214.out 1).trans rfl; have hcz20_2 : w17.cell? ⟨gb214, 2, none⟩ = some (.slice A1_2 l1_2.length c1_2) := (blk_cell BK214.out 2).trans rfl; have hfz20_0 := blk_frozen BK214.out 0; have hfz20_1 := blk_frozen BK214.out 1; have hfz20_2 := blk_frozen BK214.out 2) | ((with_reducible refine gate_callee (f := 49) rfl ?_); refine goesL_ (some 10) rfl rfl Try.func49 (by kernel_rfl) rfl #[.slice A0_2 l0_2.length c0_2, .slice A1_2 l1_2.length c1_2] rfl (by (try simp only [List.map_toArray, List.map_cons, List.map_nil]); first | done | rfl | (simp only [List.length_drop, List.length_take]; rfl)) ?_; (with_reducible refine (selvedgeref01_Same.calls k _ _ l0_2 _ _ l1_2 false _ ?side1 ?side2 ?side3 ?side4 A3.out).mono ?_); (case side1 => repeat (first | exact (Kd.C_below HR0_2.out HB.out) | (with_reducible refine Kd.C_alloc ?_ _) | (with_reducible refine Kd.C_drewN ?_ _) | (with_reducible refine Kd.C_drew ?_))); (case side2 => exact HC0_2.out); (case side3 => repeat (first | exact (Kd.C_below HR1_2.out HB.out) | (with_reducible refine Kd.C_alloc ?_ _) | (with_reducible refine Kd.C_drewN ?_ _) | (with_reducible refine Kd.C_drew ?_))); (case side4 => exact HC1_2.out); rintro e w' ⟨rfl, ⟨nd, rfl⟩⟩; refine ⟨_, rfl, ?_⟩))
  go_ret
  exact ⟨by first | rfl | (simp [errW_none, errW_some] <;> rfl) | (simp [*, errW_none, errW_some] <;> rfl), by repeat (first | (with_reducible first | exact HB.out | apply below_alloc | apply pw_below_drewN | apply below_drew1 | refine below_set ?_ GE213.out | refine below_set ?_ GE214.out) | exact HB.out)⟩

/-! ### selvedgeref15_Blocks: function 43 -/
def selvedgeref15_Blocks.l0 : Nat → List (S40) → List (S40) → Int → Option (Bool)
 | 0, _, _, _ => none
 | k + 1, x0, x1, x5 => if x5 < (x0.length : Int) then (if 0 ≤ x5 then (if x5 < (x1.length : Int) then ((selvedgeref01_Same.f k ((rd_T40 x0 x5).f2) ((rd_T40 x1 x5).f2)).bind fun t218 => (if t218 = true then (if ((rd_T40 x0 x5).f0) = ((rd_T40 x1 x5).f0) then (if ((rd_T40 x0 x5).f1).toList = ((rd_T40 x1 x5).f1).toList then (selvedgeref15_Blocks.l0 k x0 x1 (wrap64 (x5 + 1))) else (some false)) else (some false)) else (some false))) else (none)) else (none)) else (some true)
def selvedgeref15_Blocks.f (k : Nat) (l0 : List (S40)) (l1 : List (S40)) : Option (Bool) := if (l0.length : Int) = (l1.length : Int) then (selvedgeref15_Blocks.l0 k l0 l1 0) else (some false)
theorem selvedgeref15_Blocks.mono_l : ∀ k, (∀ y0 y1 y2, LeO (selvedgeref15_Blocks.l0 k y0 y1 y2) (selvedgeref15_Blocks.l0 (k + 1) y0 y1 y2))
 | 0 => fun _ _ _ r h => by simp [selvedgeref15_Blocks.l0] at h
 | k + 1 => by
  have ih0 := selvedgeref15_Blocks.mono_l k
  ·
   intro y0 y1 y2
   unfold selvedgeref15_Blocks.l0
   repeat' first
   | (with_reducible exact ih0 _ _ _)
   | (with_reducible exact selvedgeref01_Same.mono _ _ _)
   | (with_reducible exact LeO.refl _)
   | (with_reducible exact LeO.none _)
   | (with_reducible refine LeO.ite ?_ ?_)
   | (with_reducible refine LeO.bind ?_ (fun _ => ?_))
   | exact ih0 _ _ _
   | exact selvedgeref01_Same.mono _ _ _
   | exact LeO.none _
   | refine LeO.ite ?_ ?_
   | refine LeO.bind ?_ (fun _ => ?_)
theorem selvedgeref15_Blocks.mono : ∀ a0 a1 k, LeO (selvedgeref15_Blocks.f k a0 a1) (selvedgeref15_Blocks.f (k + 1) a0 a1) := by
 intro a0 a1 k
 have ih0 := selvedgeref15_Blocks.mono_l k
 unfold selvedgeref15_Blocks.f
 repeat' first
   | (with_reducible exact ih0 _ _ _)
   | (with_reducible exact selvedgeref01_Same.mono _ _ _)
   | (with_reducible exact LeO.refl _)
   | (with_reducible exact LeO.none _)
   | (with_reducible refine LeO.ite ?_ ?_)
   | (with_reducible refine LeO.bind ?_ (fun _ => ?_))
   | exact ih0 _ _ _
   | exact selvedgeref01_Same.mono _ _ _
   | exact LeO.none _
   | refine LeO.ite ?_ ?_
   | refine LeO.bind ?_ (fun _ => ?_)
set_option maxHeartbeats 8000000 in
set_option maxRecDepth 100000 in
theorem selvedgeref15_Blocks.calls (k : Nat) (A0 : Option Addr) (c0 : Nat) (l0 : List (S40)) (A1 : Option Addr) (c1 : Nat) (l1 : List (S40)) (r : Bool) (w : World) (hr0 : Kd.C k40 w A0 l0.length l0) (hc0 : l0.length ≤ c0) (hr1 : Kd.C k40 w A1 l1.length l1) (hc1 : l1.length ≤ c1) (h : selvedgeref15_Blocks.f k l0 l1 = some r) :
  Calls Try.prog 43 #[.slice A0 l0.length c0, .slice A1 l1.length c1] w fun e w' => e = .returned (.bool r) ∧ Drawn0 w w' := by
 have HR0 := Aside0.mk hr0
 have HC0 := Aside0.mk hc0
 clear hr0 hc0
 have HR1 := Aside0.mk hr1
 have HC1 := Aside0.mk hc1
 clear hr1 hc1
 have H : (if (l0.length : Int) = (l1.length : Int) then (selvedgeref15_Blocks.l0 k l0 l1 0) else (some false)) = some r := h
 clear h
 by_cases c3 : (l0.length : Int) = (l1.length : Int)
 ·
  rw [if_pos c3] at H
  have c3b0 : ((l0.length : Int) == (l1.length : Int)) = true := beq_iff_eq.mpr c3
  have c3b1 : ((l0.length : Int) != (l1.length : Int)) = false := bne_eq_false_iff_eq.mpr c3
  have c3b2 : (l0.length == l1.length) = true := by first | simpa using c3 | (simp at c3 ⊢; omega)
  clear c3
  have H' := Aside0.mk H
  clear H
  go_enter Try.func43, Try.ntmps43
  go_wp2
  repeat (go_quiet (fail); try go_wp2)
  go_loopg [5] k (fun kq v5 w' => ∃ (x5_1 : Int), v5 = .int .i64 x5_1 ∧ Aside0 (selvedgeref15_Blocks.l0 kq l0 l1 x5_1 = some r) ∧ Aside0 (kq ≤ k) ∧ Drawn0 w w')
  case atStart => exact ⟨(0), (by first | rfl | (simp; done) | (simp [*]; done)), H', ⟨Nat.le_refl _⟩, by repeat (first | exact Drawn0.refl _ | apply Drawn0.step)⟩
  case round =>
   clear H'
   try clear c1
   try clear p2
   try clear c3
   try clear c3b0
   try clear c3b1
   try clear c3b2
   obtain ⟨x5_1, rfl, HA, HK1, ⟨m1, rfl⟩⟩ := hrel
   cases gk with
   | zero => exact absurd HA.out (by simp [selvedgeref15_Blocks.l0])
   | succ k1 =>
    have H := HA.out
    clear HA
    simp only [selvedgeref15_Blocks.l0] at H
    by_cases c4 : x5_1 < (l0.length : Int)
    ·
     rw [if_pos c4] at H
     have c4b0 : decide (x5_1 < (l0.length : Int)) = true := decide_eq_true c4
     clear c4
     by_cases c5 : 0 ≤ x5_1
     ·
      rw [if_pos c5] at H
      have c5b0 : decide (0 ≤ x5_1) = true := decide_eq_true c5
      clear c5
      by_cases c6 : x5_1 < (l1.length : Int)
      ·
       rw [if_pos c6] at H
       have c6b0 : decide (x5_1 < (l1.length : Int)) = true := decide_eq_true c6
       clear c6
       replace H := Option.bind_eq_some_iff.mp H
       obtain ⟨t218, A70, H⟩ := H
       replace H : (if t218 = true then (if ((rd_T40 l0 x5_1).f0) = ((rd_T40 l1 x5_1).f0) then (if ((rd_T40 l0 x5_1).f1).toList = ((rd_T40 l1 x5_1).f1).toList then (selvedgeref15_Blocks.l0 k1 l0 l1 (wrap64 (x5_1 + 1))) else (some false)) else (some false)) else (some false)) = some r := H
       have A7 := Aside0.mk A70
       clear A70
       by_cases c8 : t218 = true
       ·
        subst c8
        have H1 : (if ((rd_T40 l0 x5_1).f0) = ((rd_T40 l1 x5_1).f0) then (if ((rd_T40 l0 x5_1).f1).toList = ((rd_T40 l1 x5_1).f1).toList then (selvedgeref15_Blocks.l0 k1 l0 l1 (wrap64 (x5_1 + 1))) else (some false)) else (some false)) = some r := by rw [if_pos rfl] at H; exact H
        clear H
        have H := H1
        clear H1
        by_cases c9 : ((rd_T40 l0 x5_1).f0) = ((rd_T40 l1 x5_1).f0)
        ·
         rw [if_pos c9] at H
         have c9b0 : (((rd_T40 l0 x5_1).f0) == ((rd_T40 l1 x5_1).f0)) = true := beq_iff_eq.mpr c9
         have c9b1 : (((rd_T40 l0 x5_1).f0) != ((rd_T40 l1 x5_1).f0)) = false := bne_eq_false_iff_eq.mpr c9
         clear c9
         by_cases c10 : ((rd_T40 l0 x5_1).f1).toList = ((rd_T40 l1 x5_1).f1).toList
         ·
          rw [if_pos c10] at H
          have c10b0 : (((rd_T40 l0 x5_1).f1).toList == ((rd_T40 l1 x5_1).f1).toList) = true := beq_iff_eq.mpr c10
          have c10b1 : (((rd_T40 l0 x5_1).f1).toList != ((rd_T40 l1 x5_1).f1).toList) = false := bne_eq_false_iff_eq.mpr c10
          clear c10
          have H' := Aside0.mk H
          clear H
          have p216 : 0 ≤ (x5_1 : Int) := of_decide_eq_true (by first | (with_reducible assumption) | assumption)
          have q216 : x5_1 < (l0.length : Int) := of_decide_eq_true (by first | (with_reducible assumption) | assumption)
          obtain ⟨ad216, A216_2, c216_2, e216, hx216_0, hx216_1, hx216_2, hl216_2, hi216_2⟩ := at_T40 HR0.out x5_1 p216 q216
          cases e216
          have HR216_2 := Aside0.mk hi216_2
          have HC216_2 := Aside0.mk hl216_2
          clear hi216_2 hl216_2
          replace p216 := eq_true p216
          replace q216 := eq_true q216
          have p217 : 0 ≤ (x5_1 : Int) := of_decide_eq_true (by first | (with_reducible assumption) | assumption)
          have q217 : x5_1 < (l1.length : Int) := of_decide_eq_true (by first | (with_reducible assumption) | assumption)
          obtain ⟨ad217, A217_2, c217_2, e217, hx217_0, hx217_1, hx217_2, hl217_2, hi217_2⟩ := at_T40 HR1.out x5_1 p217 q217
          cases e217
          have HR217_2 := Aside0.mk hi217_2
          have HC217_2 := Aside0.mk hl217_2
          clear hi217_2 hl217_2
          replace p217 := eq_true p217
          replace q217 := eq_true q217
          go_wp2_with (first | (go_at_call 49; (with_reducible refine (selvedgeref01_Same.calls k1 _ _ ((rd_T40 l0 x5_1).f2) _ _ ((rd_T40 l1 x5_1).f2) true _ ?side1 ?side2 ?side3 ?side4 A7.out).mono ?_); (case side1 => repeat (first | exact HR216_2.out | (with_reducible refine Kd.C_alloc ?_ _) | (with_reducible refine Kd.C_drewN ?_ _) | (with_reducible refine Kd.C_drew ?_))); (case side2 => exact HC216_2.out); (case side3 => repeat (first | exact HR217_2.out | (with_reducible refine Kd.C_alloc ?_ _) | (with_reducible refine Kd.C_drewN ?_ _) | (with_reducible refine Kd.C_drew ?_))); (case side4 => exact HC217_2.out); rintro e w' ⟨rfl, ⟨nd, rfl⟩⟩; (try first | exact ⟨rfl, _, World.drewN_drewN _ _ _⟩ | exact ⟨rfl, _, Eq.trans (World.drewN_drewN _ _ _) (congrArg (World.drewN _) (Nat.add_assoc _ _ _))⟩); have p219 : 0 ≤ (x5_1 : Int) := of_decide_eq_true (by first | (with_reducible assumption) | assumption); have q219 : x5_1 < (l0.length : Int) := of_decide_eq_true (by first | (with_reducible assumption) | assumption); obtain ⟨ad219, A219_2, c219_2, e219, hx219_0, hx219_1, hx219_2, hl219_2, hi219_2⟩ := at_T40 HR0.out x5_1 p219 q219; obtain rfl : ad216 = ad219 := (by injection e219); have HR219_2 := Aside0.mk hi219_2; have HC219_2 := Aside0.mk hl219_2; clear hi219_2 hl219_2; replace p219 := eq_true p219; replace q219 := eq_true q219; have ea_ := Option.some.inj (hx216_2.symm.trans hx219_2); injection ea_ with ea_ en_ ec_; subst ea_; subst ec_; clear en_; have p220 : 0 ≤ (x5_1 : Int) := of_decide_eq_true (by first | (with_reducible assumption) | assumption); have q220 : x5_1 < (l1.length : Int) := of_decide_eq_true (by first | (with_reducible assumption) | assumption); obtain ⟨ad220, A220_2, c220_2, e220, hx220_0, hx220_1, hx220_2, hl220_2, hi220_2⟩ := at_T40 HR1.out x5_1 p220 q220; obtain rfl : ad217 = ad220 := (by injection e220); have HR220_2 := Aside0.mk hi220_2; have HC220_2 := Aside0.mk hl220_2; clear hi220_2 hl220_2; replace p220 := eq_true p220; replace q220 := eq_true q220; have ea_ := Option.some.inj (hx217_2.symm.trans hx220_2); injection ea_ with ea_ en_ ec_; subst ea_; subst ec_; clear en_; have p221 : 0 ≤ (x5_1 : Int) := of_decide_eq_true (by first | (with_reducible assumption) | assumption); have q221 : x5_1 < (l0.length : Int) := of_decide_eq_true (by first | (with_reducible assumption) | assumption); obtain ⟨ad221, A221_2, c221_2, e221, hx221_0, hx221_1, hx221_2, hl221_2, hi221_2⟩ := at_T40 HR0.out x5_1 p221 q221; obtain rfl : ad216 = ad221 := (by injection e221); have HR221_2 := Aside0.mk hi221_2; have HC221_2 := Aside0.mk hl221_2; clear hi221_2 hl221_2; replace p221 := eq_true p221; replace q221 := eq_true q221; have ea_ := Option.some.inj (hx216_2.symm.trans hx221_2); injection ea_ with ea_ en_ ec_; subst ea_; subst ec_; clear en_; have p222 : 0 ≤ (x5_1 : Int) := of_decide_eq_true (by first | (with_reducible assumption) | assumption); have q222 : x5_1 < (l1.length : Int) := of_decide_eq_true (by first | (with_reducible assumption) | assumption); obtain ⟨ad222, A222_2, c222_2, e222, hx222_0, hx222_1, hx222_2, hl222_2, hi222_2⟩ := at_T40 HR1.out x5_1 p222 q222; obtain rfl : ad217 = ad222 := (by injection e222); have HR222_2 := Aside0.mk hi222_2; have HC222_2 := Aside0.mk hl222_2; clear hi222_2 hl222_2; replace p222 := eq_true p222; replace q222 := eq_true q222; have ea_ := Option.some.inj (hx217_2.symm.trans hx222_2); injection ea_ with ea_ en_ ec_; subst ea_; subst ec_; clear en_))
          repeat (go_quiet (first | (go_at_call 49; (with_reducible refine (selvedgeref01_Same.calls k1 _ _ ((rd_T40 l0 x5_1).f2) _ _ ((rd_T40 l1 x5_1).f2) true _ ?side1 ?side2 ?side3 ?side4 A7.out).mono ?_); (case side1 => repeat (first | exact HR216_2.out | (with_reducible refine Kd.C_alloc ?_ _) | (with_reducible refine Kd.C_drewN ?_ _) | (with_reducible refine Kd.C_drew ?_))); (case side2 => exact HC216_2.out); (case side3 => repeat (first | exact HR217_2.out | (with_reducible refine Kd.C_alloc ?_ _) | (with_reducible refine Kd.C_drewN ?_ _) | (with_reducible refine Kd.C_drew ?_))); (case side4 => exact HC217_2.out); rintro e w' ⟨rfl, ⟨nd, rfl⟩⟩; (try first | exact ⟨rfl, _, World.drewN_drewN _ _ _⟩ | exact ⟨rfl, _, Eq.trans (World.drewN_drewN _ _ _) (congrArg (World.drewN _) (Nat.add_assoc _ _ _))⟩); have p219 : 0 ≤ (x5_1 : Int) := of_decide_eq_true (by first | (with_reducible assumption) | assumption); have q219 : x5_1 < (l0.length : Int) := of_decide_eq_true (by first | (with_reducible assumption) | assumption); obtain ⟨ad219, A219_2, c219_2, e219, hx219_0, hx219_1, hx219_2, hl219_2, hi219_2⟩ := at_T40 HR0.out x5_1 p219 q219; obtain rfl : ad216 = ad219 := (by injection e219); have HR219_2 := Aside0.mk hi219_2; have HC219_2 := Aside0.mk hl219_2; clear hi219_2 hl219_2; replace p219 := eq_true p219; replace q219 := eq_true q219; have ea_ := Option.some.inj (hx216_2.symm.trans hx219_2); injection ea_ with ea_ en_ ec_; subst ea_; subst ec_; clear en_; have p220 : 0 ≤ (x5_1 : Int) := of_decide_eq_true (by first | (with_reducible assumption) | assumption); have q220 : x5_1 < (l1.length : Int) := of_decide_eq_true (by first | (with_reducible assumption) | assumption); obtain ⟨ad220, A220_2, c220_2, e220, hx220_0, hx220_1, hx220_2, hl220_2, hi220_2⟩ := at_T40 HR1.out x5_1 p220 q220; obtain rfl : ad217 = ad220 := (by injection e220); have HR220_2 := Aside0.mk hi220_2; have HC220_2 := Aside0.mk hl220_2; clear hi220_2 hl220_2; replace p220 := eq_true p220; replace q220 := eq_true q220; have ea_ := Option.some.inj (hx217_2.symm.trans hx220_2); injection ea_ with ea_ en_ ec_; subst ea_; subst ec_; clear en_; have p221 : 0 ≤ (x5_1 : Int) := of_decide_eq_true (by first | (with_reducible assumption) | assumption); have q221 : x5_1 < (l0.length : Int) := of_decide_eq_true (by first | (with_reducible assumption) | assumption); obtain ⟨ad221, A221_2, c221_2, e221, hx221_0, hx221_1, hx221_2, hl221_2, hi221_2⟩ := at_T40 HR0.out x5_1 p221 q221; obtain rfl : ad216 = ad221 := (by injection e221); have HR221_2 := Aside0.mk hi221_2; have HC221_2 := Aside0.mk hl221_2; clear hi221_2 hl221_2; replace p221 := eq_true p221; replace q221 := eq_true q221; have ea_ := Option.some.inj (hx216_2.symm.trans hx221_2); injection ea_ with ea_ en_ ec_; subst ea_; subst ec_; clear en_; have p222 : 0 ≤ (x5_1 : Int) := of_decide_eq_true (by first | (with_reducible assumption) | assumption); have q222 : x5_1 < (l1.length : Int) := of_decide_eq_true (by first | (with_reducible assumption) | assumption); obtain ⟨ad222, A222_2, c222_2, e222, hx222_0, hx222_1, hx222_2, hl222_2, hi222_2⟩ := at_T40 HR1.out x5_1 p222 q222; obtain rfl : ad217 = ad222 := (by injection e222); have HR222_2 := Aside0.mk hi222_2; have HC222_2 := Aside0.mk hl222_2; clear hi222_2 hl222_2; replace p222 := eq_true p222; replace q222 := eq_true q222; have ea_ := Option.some.inj (hx217_2.symm.trans hx222_2); injection ea_ with ea_ en_ ec_; subst ea_; subst ec_; clear en_)); try go_wp2_with (first | (go_at_call 49; (with_reducible refine (selvedgeref01_Same.calls k1 _ _ ((rd_T40 l0 x5_1).f2) _ _ ((rd_T40 l1 x5_1).f2) true _ ?side1 ?side2 ?side3 ?side4 A7.out).mono ?_); (case side1 => repeat (first | exact HR216_2.out | (with_reducible refine Kd.C_alloc ?_ _) | (with_reducible refine Kd.C_drewN ?_ _) | (with_reducible refine Kd.C_drew ?_))); (case side2 => exact HC216_2.out); (case side3 => repeat (first | exact HR217_2.out | (with_reducible refine Kd.C_alloc ?_ _) | (with_reducible refine Kd.C_drewN ?_ _) | (with_reducible refine Kd.C_drew ?_))); (case side4 => exact HC217_2.out); rintro e w' ⟨rfl, ⟨nd, rfl⟩⟩; (try first | exact ⟨rfl, _, World.drewN_drewN _ _ _⟩ | exact ⟨rfl, _, Eq.trans (World.drewN_drewN _ _ _) (congrArg (World.drewN _) (Nat.add_assoc _ _ _))⟩); have p219 : 0 ≤ (x5_1 : Int) := of_decide_eq_true (by first | (with_reducible assumption) | assumption); have q219 : x5_1 < (l0.length : Int) := of_decide_eq_true (by first | (with_reducible assumption) | assumption); obtain ⟨ad219, A219_2, c219_2, e219, hx219_0, hx219_1, hx219_2, hl219_2, hi219_2⟩ := at_T40 HR0.out x5_1 p219 q219; obtain rfl : ad216 = ad219 := (by injection e219); have HR219_2 := Aside0.mk hi219_2; have HC219_2 := Aside0.mk hl219_2; clear hi219_2 hl219_2; replace p219 := eq_true p219; replace q219 := eq_true q219; have ea_ := Option.some.inj (hx216_2.symm.trans hx219_2); injection ea_ with ea_ en_ ec_; subst ea_; subst ec_; clear en_; have p220 : 0 ≤ (x5_1 : Int) := of_decide_eq_true (by first | (with_reducible assumption) | assumption); have q220 : x5_1 < (l1.length : Int) := of_decide_eq_true (by first | (with_reducible assumption) | assumption); obtain ⟨ad220, A220_2, c220_2, e220, hx220_0, hx220_1, hx220_2, hl220_2, hi220_2⟩ := at_T40 HR1.out x5_1 p220 q220; obtain rfl : ad217 = ad220 := (by injection e220); have HR220_2 := Aside0.mk hi220_2; have HC220_2 := Aside0.mk hl220_2; clear hi220_2 hl220_2; replace p220 := eq_true p220; replace q220 := eq_true q220; have ea_ := Option.some.inj (hx217_2.symm.trans hx220_2); injection ea_ with ea_ en_ ec_; subst ea_; subst ec_; clear en_; have p221 : 0 ≤ (x5_1 : Int) := of_decide_eq_true (by first | (with_reducible assumption) | assumption); have q221 : x5_1 < (l0.length : Int) := of_decide_eq_true (by first | (with_reducible assumption) | assumption); obtain ⟨ad221, A221_2, c221_2, e221, hx221_0, hx221_1, hx221_2, hl221_2, hi221_2⟩ := at_T40 HR0.out x5_1 p221 q221; obtain rfl : ad216 = ad221 := (by injection e221); have HR221_2 := Aside0.mk hi221_2; have HC221_2 := Aside0.mk hl221_2; clear hi221_2 hl221_2; replace p221 := eq_true p221; replace q221 := eq_true q221; have ea_ := Option.some.inj (hx216_2.symm.trans hx221_2); injection ea_ with ea_ en_ ec_; subst ea_; subst ec_; clear en_; have p222 : 0 ≤ (x5_1 : Int) := of_decide_eq_true (by first | (with_reducible assumption) | assumption); have q222 : x5_1 < (l1.length : Int) := of_decide_eq_true (by first | (with_reducible assumption) | assumption); obtain ⟨ad222, A222_2, c222_2, e222, hx222_0, hx222_1, hx222_2, hl222_2, hi222_2⟩ := at_T40 HR1.out x5_1 p222 q222; obtain rfl : ad217 = ad222 := (by injection e222); have HR222_2 := Aside0.mk hi222_2; have HC222_2 := Aside0.mk hl222_2; clear hi222_2 hl222_2; replace p222 := eq_true p222; replace q222 := eq_true q222; have ea_ := Option.some.inj (hx217_2.symm.trans hx222_2); injection ea_ with ea_ en_ ec_; subst ea_; subst ec_; clear en_)))
          go_roundg k1
          case measure => have := HK1.out; omega
          case rel => exact ⟨(wrap64 (x5_1 + 1)), (by first | rfl | (simp; done) | (simp [*]; done)), H', ⟨by have := HK1.out; omega⟩, by repeat (first | exact Drawn0.refl _ | apply Drawn0.step)⟩
         ·
          rw [if_neg c10] at H
          have c10b0 : (((rd_T40 l0 x5_1).f1).toList == ((rd_T40 l1 x5_1).f1).toList) = false := beq_eq_false_iff_ne.mpr c10
          have c10b1 : (((rd_T40 l0 x5_1).f1).toList != ((rd_T40 l1 x5_1).f1).toList) = true := bne_iff_ne.mpr c10
          obtain rfl := Option.some.inj H
          have p216 : 0 ≤ (x5_1 : Int) := of_decide_eq_true (by first | (with_reducible assumption) | assumption)
          have q216 : x5_1 < (l0.length : Int) := of_decide_eq_true (by first | (with_reducible assumption) | assumption)
          obtain ⟨ad216, A216_2, c216_2, e216, hx216_0, hx216_1, hx216_2, hl216_2, hi216_2⟩ := at_T40 HR0.out x5_1 p216 q216
          cases e216
          have HR216_2 := Aside0.mk hi216_2
          have HC216_2 := Aside0.mk hl216_2
          clear hi216_2 hl216_2
          replace p216 := eq_true p216
          replace q216 := eq_true q216
          have p217 : 0 ≤ (x5_1 : Int) := of_decide_eq_true (by first | (with_reducible assumption) | assumption)
          have q217 : x5_1 < (l1.length : Int) := of_decide_eq_true (by first | (with_reducible assumption) | assumption)
          obtain ⟨ad217, A217_2, c217_2, e217, hx217_0, hx217_1, hx217_2, hl217_2, hi217_2⟩ := at_T40 HR1.out x5_1 p217 q217
          cases e217
          have HR217_2 := Aside0.mk hi217_2
          have HC217_2 := Aside0.mk hl217_2
          clear hi217_2 hl217_2
          replace p217 := eq_true p217
          replace q217 := eq_true q217
          go_wp2_with (first | (go_at_call 49; (with_reducible refine (selvedgeref01_Same.calls k1 _ _ ((rd_T40 l0 x5_1).f2) _ _ ((rd_T40 l1 x5_1).f2) true _ ?side1 ?side2 ?side3 ?side4 A7.out).mono ?_); (case side1 => repeat (first | exact HR216_2.out | (with_reducible refine Kd.C_alloc ?_ _) | (with_reducible refine Kd.C_drewN ?_ _) | (with_reducible refine Kd.C_drew ?_))); (case side2 => exact HC216_2.out); (case side3 => repeat (first | exact HR217_2.out | (with_reducible refine Kd.C_alloc ?_ _) | (with_reducible refine Kd.C_drewN ?_ _) | (with_reducible refine Kd.C_drew ?_))); (case side4 => exact HC217_2.out); rintro e w' ⟨rfl, ⟨nd, rfl⟩⟩; (try first | exact ⟨rfl, _, World.drewN_drewN _ _ _⟩ | exact ⟨rfl, _, Eq.trans (World.drewN_drewN _ _ _) (congrArg (World.drewN _) (Nat.add_assoc _ _ _))⟩); have p219 : 0 ≤ (x5_1 : Int) := of_decide_eq_true (by first | (with_reducible assumption) | assumption); have q219 : x5_1 < (l0.length : Int) := of_decide_eq_true (by first | (with_reducible assumption) | assumption); obtain ⟨ad219, A219_2, c219_2, e219, hx219_0, hx219_1, hx219_2, hl219_2, hi219_2⟩ := at_T40 HR0.out x5_1 p219 q219; obtain rfl : ad216 = ad219 := (by injection e219); have HR219_2 := Aside0.mk hi219_2; have HC219_2 := Aside0.mk hl219_2; clear hi219_2 hl219_2; replace p219 := eq_true p219; replace q219 := eq_true q219; have ea_ := Option.some.inj (hx216_2.symm.trans hx219_2); injection ea_ with ea_ en_ ec_; subst ea_; subst ec_; clear en_; have p220 : 0 ≤ (x5_1 : Int) := of_decide_eq_true (by first | (with_reducible assumption) | assumption); have q220 : x5_1 < (l1.length : Int) := of_decide_eq_true (by first | (with_reducible assumption) | assumption); obtain ⟨ad220, A220_2, c220_2, e220, hx220_0, hx220_1, hx220_2, hl220_2, hi220_2⟩ := at_T40 HR1.out x5_1 p220 q220; obtain rfl : ad217 = ad220 := (by injection e220); have HR220_2 := Aside0.mk hi220_2; have HC220_2 := Aside0.mk hl220_2; clear hi220_2 hl220_2; replace p220 := eq_true p220; replace q220 := eq_true q220; have ea_ := Option.some.inj (hx217_2.symm.trans hx220_2); injection ea_ with ea_ en_ ec_; subst ea_; subst ec_; clear en_; have p221 : 0 ≤ (x5_1 : Int) := of_decide_eq_true (by first | (with_reducible assumption) | assumption); have q221 : x5_1 < (l0.length : Int) := of_decide_eq_true (by first | (with_reducible assumption) | assumption); obtain ⟨ad221, A221_2, c221_2, e221, hx221_0, hx221_1, hx221_2, hl221_2, hi221_2⟩ := at_T40 HR0.out x5_1 p221 q221; obtain rfl : ad216 = ad221 := (by injection e221); have HR221_2 := Aside0.mk hi221_2; have HC221_2 := Aside0.mk hl221_2; clear hi221_2 hl221_2; replace p221 := eq_true p221; replace q221 := eq_true q221; have ea_ := Option.some.inj (hx216_2.symm.trans hx221_2); injection ea_ with ea_ en_ ec_; subst ea_; subst ec_; clear en_; have p222 : 0 ≤ (x5_1 : Int) := of_decide_eq_true (by first | (with_reducible assumption) | assumption); have q222 : x5_1 < (l1.length : Int) := of_decide_eq_true (by first | (with_reducible assumption) | assumption); obtain ⟨ad222, A222_2, c222_2, e222, hx222_0, hx222_1, hx222_2, hl222_2, hi222_2⟩ := at_T40 HR1.out x5_1 p222 q222; obtain rfl : ad217 = ad222 := (by injection e222); have HR222_2 := Aside0.mk hi222_2; have HC222_2 := Aside0.mk hl222_2; clear hi222_2 hl222_2; replace p222 := eq_true p222; replace q222 := eq_true q222; have ea_ := Option.some.inj (hx217_2.symm.trans hx222_2); injection ea_ with ea_ en_ ec_; subst ea_; subst ec_; clear en_))
          repeat (go_quiet (first | (go_at_call 49; (with_reducible refine (selvedgeref01_Same.calls k1 _ _ ((rd_T40 l0 x5_1).f2) _ _ ((rd_T40 l1 x5_1).f2) true _ ?side1 ?side2 ?side3 ?side4 A7.out).mono ?_); (case side1 => repeat (first | exact HR216_2.out | (with_reducible refine Kd.C_alloc ?_ _) | (with_reducible refine Kd.C_drewN ?_ _) | (with_reducible refine Kd.C_drew ?_))); (case side2 => exact HC216_2.out); (case side3 => repeat (first | exact HR217_2.out | (with_reducible refine Kd.C_alloc ?_ _) | (with_reducible refine Kd.C_drewN ?_ _) | (with_reducible refine Kd.C_drew ?_))); (case side4 => exact HC217_2.out); rintro e w' ⟨rfl, ⟨nd, rfl⟩⟩; (try first | exact ⟨rfl, _, World.drewN_drewN _ _ _⟩ | exact ⟨rfl, _, Eq.trans (World.drewN_drewN _ _ _) (congrArg (World.drewN _) (Nat.add_assoc _ _ _))⟩); have p219 : 0 ≤ (x5_1 : Int) := of_decide_eq_true (by first | (with_reducible assumption) | assumption); have q219 : x5_1 < (l0.length : Int) := of_decide_eq_true (by first | (with_reducible assumption) | assumption); obtain ⟨ad219, A219_2, c219_2, e219, hx219_0, hx219_1, hx219_2, hl219_2, hi219_2⟩ := at_T40 HR0.out x5_1 p219 q219; obtain rfl : ad216 = ad219 := (by injection e219); have HR219_2 := Aside0.mk hi219_2; have HC219_2 := Aside0.mk hl219_2; clear hi219_2 hl219_2; replace p219 := eq_true p219; replace q219 := eq_true q219; have ea_ := Option.some.inj (hx216_2.symm.trans hx219_2); injection ea_ with ea_ en_ ec_; subst ea_; subst ec_; clear en_; have p220 : 0 ≤ (x5_1 : Int) := of_decide_eq_true (by first | (with_reducible assumption) | assumption); have q220 : x5_1 < (l1.length : Int) := of_decide_eq_true (by first | (with_reducible assumption) | assumption); obtain ⟨ad220, A220_2, c220_2, e220, hx220_0, hx220_1, hx220_2, hl220_2, hi220_2⟩ := at_T40 HR1.out x5_1 p220 q220; obtain rfl : ad217 = ad220 := (by injection e220); have HR220_2 := Aside0.mk hi220_2; have HC220_2 := Aside0.mk hl220_2; clear hi220_2 hl220_2; replace p220 := eq_true p220; replace q220 := eq_true q220; have ea_ := Option.some.inj (hx217_2.symm.trans hx220_2); injection ea_ with ea_ en_ ec_; subst ea_; subst ec_; clear en_; have p221 : 0 ≤ (x5_1 : Int) := of_decide_eq_true (by first | (with_reducible assumption) | assumption); have q221 : x5_1 < (l0.length : Int) := of_decide_eq_true (by first | (with_reducible assumption) | assumption); obtain ⟨ad221, A221_2, c221_2, e221, hx221_0, hx221_1, hx221_2, hl221_2, hi221_2⟩ := at_T40 HR0.out x5_1 p221 q221; obtain rfl : ad216 = ad221 := (by injection e221); have HR221_2 := Aside0.mk hi221_2; have HC221_2 := Aside0.mk hl221_2; clear hi221_2 hl221_2; replace p221 := eq_true p221; replace q221 := eq_true q221; have ea_ := Option.some.inj (hx216_2.symm.trans hx221_2); injection ea_ with ea_ en_ ec_; subst ea_; subst ec_; clear en_; have p222 : 0 ≤ (x5_1 : Int) := of_decide_eq_true (by first | (with_reducible assumption) | assumption); have q222 : x5_1 < (l1.length : Int) := of_decide_eq_true (by first | (with_reducible assumption) | assumption); obtain ⟨ad222, A222_2, c222_2, e222, hx222_0, hx222_1, hx222_2, hl222_2, hi222_2⟩ := at_T40 HR1.out x5_1 p222 q222; obtain rfl : ad217 = ad222 := (by injection e222); have HR222_2 := Aside0.mk hi222_2; have HC222_2 := Aside0.mk hl222_2; clear hi222_2 hl222_2; replace p222 := eq_true p222; replace q222 := eq_true q222; have ea_ := Option.some.inj (hx217_2.symm.trans hx222_2); injection ea_ with ea_ en_ ec_; subst ea_; subst ec_; clear en_)); try go_wp2_with (first | (go_at_call 49; (with_reducible refine (selvedgeref01_Same.calls k1 _ _ ((rd_T40 l0 x5_1).f2) _ _ ((rd_T40 l1 x5_1).f2) true _ ?side1 ?side2 ?side3 ?side4 A7.out).mono ?_); (case side1 => repeat (first | exact HR216_2.out | (with_reducible refine Kd.C_alloc ?_ _) | (with_reducible refine Kd.C_drewN ?_ _) | (with_reducible refine Kd.C_drew ?_))); (case side2 => exact HC216_2.out); (case side3 => repeat (first | exact HR217_2.out | (with_reducible refine Kd.C_alloc ?_ _) | (with_reducible refine Kd.C_drewN ?_ _) | (with_reducible refine Kd.C_drew ?_))); (case side4 => exact HC217_2.out); rintro e w' ⟨rfl, ⟨nd, rfl⟩⟩; (try first | exact ⟨rfl, _, World.drewN_drewN _ _ _⟩ | exact ⟨rfl, _, Eq.trans (World.drewN_drewN _ _ _) (congrArg (World.drewN _) (Nat.add_assoc _ _ _))⟩); have p219 : 0 ≤ (x5_1 : Int) := of_decide_eq_true (by first | (with_reducible assumption) | assumption); have q219 : x5_1 < (l0.length : Int) := of_decide_eq_true (by first | (with_reducible assumption) | assumption); obtain ⟨ad219, A219_2, c219_2, e219, hx219_0, hx219_1, hx219_2, hl219_2, hi219_2⟩ := at_T40 HR0.out x5_1 p219 q219; obtain rfl : ad216 = ad219 := (by injection e219); have HR219_2 := Aside0.mk hi219_2; have HC219_2 := Aside0.mk hl219_2; clear hi219_2 hl219_2; replace p219 := eq_true p219; replace q219 := eq_true q219; have ea_ := Option.some.inj (hx216_2.symm.trans hx219_2); injection ea_ with ea_ en_ ec_; subst ea_; subst ec_; clear en_; have p220 : 0 ≤ (x5_1 : Int) := of_decide_eq_true (by first | (with_reducible assumption) | assumption); have q220 : x5_1 < (l1.length : Int) := of_decide_eq_true (by first | (with_reducible assumption) | assumption); obtain ⟨ad220, A220_2, c220_2, e220, hx220_0, hx220_1, hx220_2, hl220_2, hi220_2⟩ := at_T40 HR1.out x5_1 p220 q220; obtain rfl : ad217 = ad220 := (by injection e220); have HR220_2 := Aside0.mk hi220_2; have HC220_2 := Aside0.mk hl220_2; clear hi220_2 hl220_2; replace p220 := eq_true p220; replace q220 := eq_true q220; have ea_ := Option.some.inj (hx217_2.symm.trans hx220_2); injection ea_ with ea_ en_ ec_; subst ea_; subst ec_; clear en_; have p221 : 0 ≤ (x5_1 : Int) := of_decide_eq_true (by first | (with_reducible assumption) | assumption); have q221 : x5_1 < (l0.length : Int) := of_decide_eq_true (by first | (with_reducible assumption) | assumption); obtain ⟨ad221, A221_2, c221_2, e221, hx221_0, hx221_1, hx221_2, hl221_2, hi221_2⟩ := at_T40 HR0.out x5_1 p221 q221; obtain rfl : ad216 = ad221 := (by injection e221); have HR221_2 := Aside0.mk hi221_2; have HC221_2 := Aside0.mk hl221_2; clear hi221_2 hl221_2; replace p221 := eq_true p221; replace q221 := eq_true q221; have ea_ := Option.some.inj (hx216_2.symm.trans hx221_2); injection ea_ with ea_ en_ ec_; subst ea_; subst ec_; clear en_; have p222 : 0 ≤ (x5_1 : Int) := of_decide_eq_true (by first | (with_reducible assumption) | assumption); have q222 : x5_1 < (l1.length : Int) := of_decide_eq_true (by first | (with_reducible assumption) | assumption); obtain ⟨ad222, A222_2, c222_2, e222, hx222_0, hx222_1, hx222_2, hl222_2, hi222_2⟩ := at_T40 HR1.out x5_1 p222 q222; obtain rfl : ad217 = ad222 := (by injection e222); have HR222_2 := Aside0.mk hi222_2; have HC222_2 := Aside0.mk hl222_2; clear hi222_2 hl222_2; replace p222 := eq_true p222; replace q222 := eq_true q222; have ea_ := Option.some.inj (hx217_2.symm.trans hx222_2); injection ea_ with ea_ en_ ec_; subst ea_; subst ec_; clear en_)))
          go_ret
          exact ⟨by first | rfl | (simp; done) | (simp [*]; done), by repeat (first | exact Drawn0.refl _ | apply Drawn0.step)⟩
        ·
         rw [if_neg c9] at H
         have c9b0 : (((rd_T40 l0 x5_1).f0) == ((rd_T40 l1 x5_1).f0)) = false := beq_eq_false_iff_ne.mpr c9
         have c9b1 : (((rd_T40 l0 x5_1).f0) != ((rd_T40 l1 x5_1).f0)) = true := bne_iff_ne.mpr c9
         obtain rfl := Option.some.inj H
         have p216 : 0 ≤ (x5_1 : Int) := of_decide_eq_true (by first | (with_reducible assumption) | assumption)
         have q216 : x5_1 < (l0.length : Int) := of_decide_eq_true (by first | (with_reducible assumption) | assumption)
         obtain ⟨ad216, A216_2, c216_2, e216, hx216_0, hx216_1, hx216_2, hl216_2, hi216_2⟩ := at_T40 HR0.out x5_1 p216 q216
         cases e216
         have HR216_2 := Aside0.mk hi216_2
         have HC216_2 := Aside0.mk hl216_2
         clear hi216_2 hl216_2
         replace p216 := eq_true p216
         replace q216 := eq_true q216
         have p217 : 0 ≤ (x5_1 : Int) := of_decide_eq_true (by first | (with_reducible assumption) | assumption)
         have q217 : x5_1 < (l1.length : Int) := of_decide_eq_true (by first | (with_reducible assumption) | assumption)
         obtain ⟨ad217, A217_2, c217_2, e217, hx217_0, hx217_1, hx217_2, hl217_2, hi217_2⟩ := at_T40 HR1.out x5_1 p217 q217
         cases e217
         have HR217_2 := Aside0.mk hi217_2
         have HC217_2 := Aside0.mk hl217_2
         clear hi217_2 hl217_2
         replace p217 := eq_true p217
         replace q217 := eq_true q217
         go_wp2_with (first | (go_at_call 49; (with_reducible refine (selvedgeref01_Same.calls k1 _ _ ((rd_T40 l0 x5_1).f2) _ _ ((rd_T40 l1 x5_1).f2) true _ ?side1 ?side2 ?side3 ?side4 A7.out).mono ?_); (case side1 => repeat (first | exact HR216_2.out | (with_reducible refine Kd.C_alloc ?_ _) | (with_reducible refine Kd.C_drewN ?_ _) | (with_reducible refine Kd.C_drew ?_))); (case side2 => exact HC216_2.out); (case side3 => repeat (first | exact HR217_2.out | (with_reducible refine Kd.C_alloc ?_ _) | (with_reducible refine Kd.C_drewN ?_ _) | (with_reducible refine Kd.C_drew ?_))); (case side4 => exact HC217_2.out); rintro e w' ⟨rfl, ⟨nd, rfl⟩⟩; (try first | exact ⟨rfl, _, World.drewN_drewN _ _ _⟩ | exact ⟨rfl, _, Eq.trans (World.drewN_drewN _ _ _) (congrArg (World.drewN _) (Nat.add_assoc _ _ _))⟩); have p219 : 0 ≤ (x5_1 : Int) := of_decide_eq_true (by first | (with_reducible assumption) | assumption); have q219 : x5_1 < (l0.length : Int) := of_decide_eq_true (by first | (with_reducible assumption) | assumption); obtain ⟨ad219, A219_2, c219_2, e219, hx219_0, hx219_1, hx219_2, hl219_2, hi219_2⟩ := at_T40 HR0.out x5_1 p219 q219; obtain rfl : ad216 = ad219 := (by injection e219); have HR219_2 := Aside0.mk hi219_2; have HC219_2 := Aside0.mk hl219_2; clear hi219_2 hl219_2; replace p219 := eq_true p219; replace q219 := eq_true q219; have ea_ := Option.some.inj (hx216_2.symm.trans hx219_2); injection ea_ with ea_ en_ ec_; subst ea_; subst ec_; clear en_; have p220 : 0 ≤ (x5_1 : Int) := of_decide_eq_true (by first | (with_reducible assumption) | assumption); have q220 : x5_1 < (l1.length : Int) := of_decide_eq_true (by first | (with_reducible assumption) | assumption); obtain ⟨ad220, A220_2, c220_2, e220, hx220_0, hx220_1, hx220_2, hl220_2, hi220_2⟩ := at_T40 HR1.out x5_1 p220 q220; obtain rfl : ad217 = ad220 := (by injection e220); have HR220_2 := Aside0.mk hi220_2; have HC220_2 := Aside0.mk hl220_2; clear hi220_2 hl220_2; replace p220 := eq_true p220; replace q220 := eq_true q220; have ea_ := Option.some.inj (hx217_2.symm.trans hx220_2); injection ea_ with ea_ en_ ec_; subst ea_; subst ec_; clear en_))
         repeat (go_quiet (first | (go_at_call 49; (with_reducible refine (selvedgeref01_Same.calls k1 _ _ ((rd_T40 l0 x5_1).f2) _ _ ((rd_T40 l1 x5_1).f2) true _ ?side1 ?side2 ?side3 ?side4 A7.out).mono ?_); (case side1 => repeat (first | exact HR216_2.out | (with_reducible refine Kd.C_alloc ?_ _) | (with_reducible refine Kd.C_drewN ?_ _) | (with_reducible refine Kd.C_drew ?_))); (case side2 => exact HC216_2.out); (case side3 => repeat (first | exact HR217_2.out | (with_reducible refine Kd.C_alloc ?_ _) | (with_reducible refine Kd.C_drewN ?_ _) | (with_reducible refine Kd.C_drew ?_))); (case side4 => exact HC217_2.out); rintro e w' ⟨rfl, ⟨nd, rfl⟩⟩; (try first | exact ⟨rfl, _, World.drewN_drewN _ _ _⟩ | exact ⟨rfl, _, Eq.trans (World.drewN_drewN _ _ _) (congrArg (World.drewN _) (Nat.add_assoc _ _ _))⟩); have p219 : 0 ≤ (x5_1 : Int) := of_decide_eq_true (by first | (with_reducible assumption) | assumption); have q219 : x5_1 < (l0.length : Int) := of_decide_eq_true (by first | (with_reducible assumption) | assumption); obtain ⟨ad219, A219_2, c219_2, e219, hx219_0, hx219_1, hx219_2, hl219_2, hi219_2⟩ := at_T40 HR0.out x5_1 p219 q219; obtain rfl : ad216 = ad219 := (by injection e219); have HR219_2 := Aside0.mk hi219_2; have HC219_2 := Aside0.mk hl219_2; clear hi219_2 hl219_2; replace p219 := eq_true p219; replace q219 := eq_true q219; have ea_ := Option.some.inj (hx216_2.symm.trans hx219_2); injection ea_ with ea_ en_ ec_; subst ea_; subst ec_; clear en_; have p220 : 0 ≤ (x5_1 : Int) := of_decide_eq_true (by first | (with_reducible assumption) | assumption); have q220 : x5_1 < (l1.length : Int) := of_decide_eq_true (by first | (with_reducible assumption) | assumption); obtain ⟨ad220, A220_2, c220_2, e220, hx220_0, hx220_1, hx220_2, hl220_2, hi220_2⟩ := at_T40 HR1.out x5_1 p220 q220; obtain rfl : ad217 = ad220 := (by injection e220); have HR220_2 := Aside0.mk hi220_2; have HC220_2 := Aside0.mk hl220_2; clear hi220_2 hl220_2; replace p220 := eq_true p220; replace q220 := eq_true q220; have ea_ := Option.some.inj (hx217_2.symm.trans hx220_2); injection ea_ with ea_ en_ ec_; subst ea_; subst ec_; clear en_)); try go_wp2_with (first | (go_at_call 49; (with_reducible refine (selvedgeref01_Same.calls k1 _ _ ((rd_T40 l0 x5_1).f2) _ _ ((rd_T40 l1 x5_1).f2) true _ ?side1 ?side2 ?side3 ?side4 A7.out).mono ?_); (case side1 => repeat (first | exact HR216_2.out | (with_reducible refine Kd.C_alloc ?_ _) | (with_reducible refine Kd.C_drewN ?_ _) | (with_reducible refine Kd.C_drew ?_))); (case side2 => exact HC216_2.out); (case side3 => repeat (first | exact HR217_2.out | (with_reducible refine Kd.C_alloc ?_ _) | (with_reducible refine Kd.C_drewN ?_ _) | (with_reducible refine Kd.C_drew ?_))); (case side4 => exact HC217_2.out); rintro e w' ⟨rfl, ⟨nd, rfl⟩⟩; (try first | exact ⟨rfl, _, World.drewN_drewN _ _ _⟩ | exact ⟨rfl, _, Eq.trans (World.drewN_drewN _ _ _) (congrArg (World.drewN _) (Nat.add_assoc _ _ _))⟩); have p219 : 0 ≤ (x5_1 : Int) := of_decide_eq_true (by first | (with_reducible assumption) | assumption); have q219 : x5_1 < (l0.length : Int) := of_decide_eq_true (by first | (with_reducible assumption) | assumption); obtain ⟨ad219, A219_2, c219_2, e219, hx219_0, hx219_1, hx219_2, hl219_2, hi219_2⟩ := at_T40 HR0.out x5_1 p219 q219; obtain rfl : ad216 = ad219 := (by injection e219); have HR219_2 := Aside0.mk hi219_2; have HC219_2 := Aside0.mk hl219_2; clear hi219_2 hl219_2; replace p219 := eq_true p219; replace q219 := eq_true q219; have ea_ := Option.some.inj (hx216_2.symm.trans hx219_2); injection ea_ with ea_ en_ ec_; subst ea_; subst ec_; clear en_; have p220 : 0 ≤ (x5_1 : Int) := of_decide_eq_true (by first | (with_reducible assumption) | assumption); have q220 : x5_1 < (l1.length : Int) := of_decide_eq_true (by first | (with_reducible assumption) | assumption); obtain ⟨ad220, A220_2, c220_2, e220, hx220_0, hx220_1, hx220_2, hl220_2, hi220_2⟩ := at_T40 HR1.out x5_1 p220 q220; obtain rfl : ad217 = ad220 := (by injection e220); have HR220_2 := Aside0.mk hi220_2; have HC220_2 := Aside0.mk hl220_2; clear hi220_2 hl220_2; replace p220 := eq_true p220; replace q220 := eq_true q220; have ea_ := Option.some.inj (hx217_2.symm.trans hx220_2); injection ea_ with ea_ en_ ec_; subst ea_; subst ec_; clear en_)))
         go_ret
         exact ⟨by first | rfl | (simp; done) | (simp [*]; done), by repeat (first | exact Drawn0.refl _ | apply Drawn0.step)⟩
       ·
        replace c8 := Bool.eq_false_iff.mpr c8
        subst c8
        have H1 : (some false) = some r := by rw [if_neg (show ¬ (false = true) by decide)] at H; exact H
        clear H
        have H := H1
        clear H1
        obtain rfl := Option.some.inj H
        have p216 : 0 ≤ (x5_1 : Int) := of_decide_eq_true (by first | (with_reducible assumption) | assumption)
        have q216 : x5_1 < (l0.length : Int) := of_decide_eq_true (by first | (with_reducible assumption) | assumption)
        obtain ⟨ad216, A216_2, c216_2, e216, hx216_0, hx216_1, hx216_2, hl216_2, hi216_2⟩ := at_T40 HR0.out x5_1 p216 q216
        cases e216
        have HR216_2 := Aside0.mk hi216_2
        have HC216_2 := Aside0.mk hl216_2
        clear hi216_2 hl216_2
        replace p216 := eq_true p216
        replace q216 := eq_true q216
        have p217 : 0 ≤ (x5_1 : Int) := of_decide_eq_true (by first | (with_reducible assumption) | assumption)
        have q217 : x5_1 < (l1.length : Int) := of_decide_eq_true (by first | (with_reducible assumption) | assumption)
        obtain ⟨ad217, A217_2, c217_2, e217, hx217_0, hx217_1, hx217_2, hl217_2, hi217_2⟩ := at_T40 HR1.out x5_1 p217 q217
        cases e217
        have HR217_2 := Aside0.mk hi217_2
        have HC217_2 := Aside0.mk hl217_2
        clear hi217_2 hl217_2
        replace p217 := eq_true p217
        replace q217 := eq_true q217
        go_wp2_with (first | (go_at_call 49; (with_reducible refine (selvedgeref01_Same.calls k1 _ _ ((rd_T40 l0 x5_1).f2) _ _ ((rd_T40 l1 x5_1).f2) false _ ?side1 ?side2 ?side3 ?side4 A7.out).mono ?_); (case side1 => repeat (first | exact HR216_2.out | (with_reducible refine Kd.C_alloc ?_ _) | (with_reducible refine Kd.C_drewN ?_ _) | (with_reducible refine Kd.C_drew ?_))); (case side2 => exact HC216_2.out); (case side3 => repeat (first | exact HR217_2.out | (with_reducible refine Kd.C_alloc ?_ _) | (with_reducible refine Kd.C_drewN ?_ _) | (with_reducible refine Kd.C_drew ?_))); (case side4 => exact HC217_2.out); rintro e w' ⟨rfl, ⟨nd, rfl⟩⟩; (try first | exact ⟨rfl, _, World.drewN_drewN _ _ _⟩ | exact ⟨rfl, _, Eq.trans (World.drewN_drewN _ _ _) (congrArg (World.drewN _) (Nat.add_assoc _ _ _))⟩)))
        repeat (go_quiet (first | (go_at_call 49; (with_reducible refine (selvedgeref01_Same.calls k1 _ _ ((rd_T40 l0 x5_1).f2) _ _ ((rd_T40 l1 x5_1).f2) false _ ?side1 ?side2 ?side3 ?side4 A7.out).mono ?_); (case side1 => repeat (first | exact HR216_2.out | (with_reducible refine Kd.C_alloc ?_ _) | (with_reducible refine Kd.C_drewN ?_ _) | (with_reducible refine Kd.C_drew ?_))); (case side2 => exact HC216_2.out); (case side3 => repeat (first | exact HR217_2.out | (with_reducible refine Kd.C_alloc ?_ _) | (with_reducible refine Kd.C_drewN ?_ _) | (with_reducible refine Kd.C_drew ?_))); (case side4 => exact HC217_2.out); rintro e w' ⟨rfl, ⟨nd, rfl⟩⟩; (try first | exact ⟨rfl, _, World.drewN_drewN _ _ _⟩ | exact ⟨rfl, _, Eq.trans (World.drewN_drewN _ _ _) (congrArg (World.drewN _) (Nat.add_assoc _ _ _))⟩))); try go_wp2_with (first | (go_at_call 49; (with_reducible refine (selvedgeref01_Same.calls k1 _ _ ((rd_T40 l0 x5_1).f2) _ _ ((rd_T40 l1 x5_1).f2) false _ ?side1 ?side2 ?side3 ?side4 A7.out).mono ?_); (case side1 => repeat (first | exact HR216_2.out | (with_reducible refine Kd.C_alloc ?_ _) | (with_reducible refine Kd.C_drewN ?_ _) | (with_reducible refine Kd.C_drew ?_))); (case side2 => exact HC216_2.out); (case side3 => repeat (first | exact HR217_2.out | (with_reducible refine Kd.C_alloc ?_ _) | (with_reducible refine Kd.C_drewN ?_ _) | (with_reducible refine Kd.C_drew ?_))); (case side4 => exact HC217_2.out); rintro e w' ⟨rfl, ⟨nd, rfl⟩⟩; (try first | exact ⟨rfl, _, World.drewN_drewN _ _ _⟩ | exact ⟨rfl, _, Eq.trans (World.drewN_drewN _ _ _) (congrArg (World.drewN _) (Nat.add_assoc _ _ _))⟩))))
        go_ret
        exact ⟨by first | rfl | (simp; done) | (simp [*]; done), by repeat (first | exact Drawn0.refl _ | apply Drawn0.step)⟩
      ·
       rw [if_neg c6] at H
       exact absurd H (by simp)
     ·
      rw [if_neg c5] at H
      exact absurd H (by simp)
    ·
     rw [if_neg c4] at H
     have c4b0 : decide (x5_1 < (l0.length : Int)) = false := decide_eq_false c4
     clear c4
     obtain rfl := Option.some.inj H
     go_wp2
     repeat (go_quiet (fail); try go_wp2)
     go_ret
     exact ⟨by first | rfl | (simp; done) | (simp [*]; done), by repeat (first | exact Drawn0.refl _ | apply Drawn0.step)⟩
 ·
  rw [if_neg c3] at H
  have c3b0 : ((l0.length : Int) == (l1.length : Int)) = false := beq_eq_false_iff_ne.mpr c3
  have c3b1 : ((l0.length : Int) != (l1.length : Int)) = true := bne_iff_ne.mpr c3
  have c3b2 : (l0.length == l1.length) = false := by first | simpa using c3 | (simp at c3 ⊢; omega)
  obtain rfl := Option.some.inj H
  go_enter Try.func43, Try.ntmps43
  go_wp2
  repeat (go_quiet (fail); try go_wp2)
  go_ret
  exact ⟨by first | rfl | (simp; done) | (simp [*]; done), by repeat (first | exact Drawn0.refl _ | apply Drawn0.step)⟩

end Go.Proofs.Ytefdokolbdnjnaa.PCutFeeds
