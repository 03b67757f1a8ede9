-- written by a program of this session (pp.py), out of the kit's print and this session's contracts
import Derived.Test.YtiknkkkfkifahaaPPaperAgainx0
import Derived.Test.YtiknkkkfkifahaaPPaperAgainx1
import Derived.Test.YtiknkkkfkifahaaPPaperAgainx2
import Derived.Test.YtiknkkkfkifahaaPPaperAgainx3
import Derived.Test.YtiknkkkfkifahaaPe
namespace Go.Proofs.Ytiknkkkfkifahaa.PPaperAgain
open Go.RowKit Go.Proofs.YtiknkkkfkifahaaW.PrintWords Go.Proofs.YtiknkkkfkifahaaW.PrintLast Go.Proofs.YtiknkkkfkifahaaW.PrintMore
attribute [local go_sem] max2_int min2_int max_two min_two max_three min_three max_four min_four   -- for this text's walks alone
set_option linter.unusedVariables false
set_option linter.unusedSimpArgs false

attribute [local go_sem high] eqA60
/-! ### selvedgelaw17_PaperAgain: function 13 -/
def selvedgelaw17_PaperAgain.j0 : Nat → Int → Int → Bool → Bool → ByteArray → ByteArray → Int → Bool → Option (Bool)
 | 0, _, _, _, _, _, _, _, _ => none
 | k + 1, x1, x2, x7, x25, x143000, x143001, x143002, x143003 => if x25 = true then (some x7) else ((paper_Crash.f k x143000 x143001 x143002 x143003 x1).bind fun bt144 => ((paper_Crash.f k bt144.1 bt144.2.1 bt144.2.2.1 bt144.2.2.2 x2).bind fun bt149 => ((paper_Sync.f x143000 x143001 x143002 x143003).bind fun bt154 => ((paper_Sync.f bt154.1 bt154.2.1 bt154.2.2.1 bt154.2.2.2.1).bind fun bt160 => ((paper_Records.f k x143000 x143001 x143002 x143003).bind fun t166 => ((paper_Records.f k bt154.1 bt154.2.1 bt154.2.2.1 bt154.2.2.2.1).bind fun t169 => ((selvedgeref01_Same.f k t166 t169).bind fun t172 => (if x7 = true then (if (bt144.1.toList == bt149.1.toList && (bt144.2.1.toList == bt149.2.1.toList && (bt144.2.2.1 == bt149.2.2.1 && (bt144.2.2.2 == bt149.2.2.2)))) = true then (if bt154.2.2.2.2 = bt160.2.2.2.2 then (if (bt154.1.toList == bt160.1.toList && (bt154.2.1.toList == bt160.2.1.toList && (bt154.2.2.1 == bt160.2.2.1 && (bt154.2.2.2.1 == bt160.2.2.2.1)))) = true then (some t172) else (some false)) else (some false)) else (some false)) else (some false)))))))))
def selvedgelaw17_PaperAgain.f (k : Nat) (a0_0 : ByteArray) (a0_1 : ByteArray) (a0_2 : Int) (a0_3 : Bool) (a1 : Int) (a2 : Int) : Option (Bool) := (selvedgelaw17_shown.f k).bind fun t143 => (if (a0_0.size : Int) > 1048576 then (selvedgelaw17_PaperAgain.j0 k a1 a2 t143 true a0_0 a0_1 a0_2 a0_3) else (selvedgelaw17_PaperAgain.j0 k a1 a2 t143 (decide ((a0_1.size : Int) > 1048576)) a0_0 a0_1 a0_2 a0_3))
theorem selvedgelaw17_PaperAgain.mono_l : ∀ k, (∀ y0 y1 y2 y3 y4 y5 y6 y7, LeO (selvedgelaw17_PaperAgain.j0 k y0 y1 y2 y3 y4 y5 y6 y7) (selvedgelaw17_PaperAgain.j0 (k + 1) y0 y1 y2 y3 y4 y5 y6 y7))
 | 0 => fun _ _ _ _ _ _ _ _ r h => by simp [selvedgelaw17_PaperAgain.j0] at h
 | k + 1 => by
  have ih0 := selvedgelaw17_PaperAgain.mono_l k
  ·
   intro y0 y1 y2 y3 y4 y5 y6 y7
   unfold selvedgelaw17_PaperAgain.j0
   repeat' first
   | (with_reducible exact ih0 _ _ _ _ _ _ _ _)
   | (with_reducible exact paper_Crash.mono _ _ _ _ _ _)
   | (with_reducible exact paper_Records.mono _ _ _ _ _)
   | (with_reducible exact selvedgelaw17_shown.mono _)
   | (with_reducible exact selvedgeref01_Same.mono _ _ _)
   | (with_reducible exact LeO.refl _)
   | (with_reducible exact LeO.none _)
   | (with_reducible refine LeO.ite ?_ ?_)
   | (with_reducible refine LeO.bind ?_ (fun _ => ?_))
   | exact ih0 _ _ _ _ _ _ _ _
   | exact paper_Crash.mono _ _ _ _ _ _
   | exact paper_Records.mono _ _ _ _ _
   | exact selvedgelaw17_shown.mono _
   | exact selvedgeref01_Same.mono _ _ _
   | exact LeO.none _
   | refine LeO.ite ?_ ?_
   | refine LeO.bind ?_ (fun _ => ?_)
theorem selvedgelaw17_PaperAgain.mono : ∀ a0 a1 a2 a3 a4 a5 k, LeO (selvedgelaw17_PaperAgain.f k a0 a1 a2 a3 a4 a5) (selvedgelaw17_PaperAgain.f (k + 1) a0 a1 a2 a3 a4 a5) := by
 intro a0 a1 a2 a3 a4 a5 k
 have ih0 := selvedgelaw17_PaperAgain.mono_l k
 unfold selvedgelaw17_PaperAgain.f
 repeat' first
   | (with_reducible exact ih0 _ _ _ _ _ _ _ _)
   | (with_reducible exact paper_Crash.mono _ _ _ _ _ _)
   | (with_reducible exact paper_Records.mono _ _ _ _ _)
   | (with_reducible exact selvedgelaw17_shown.mono _)
   | (with_reducible exact selvedgeref01_Same.mono _ _ _)
   | (with_reducible exact LeO.refl _)
   | (with_reducible exact LeO.none _)
   | (with_reducible refine LeO.ite ?_ ?_)
   | (with_reducible refine LeO.bind ?_ (fun _ => ?_))
   | exact ih0 _ _ _ _ _ _ _ _
   | exact paper_Crash.mono _ _ _ _ _ _
   | exact paper_Records.mono _ _ _ _ _
   | exact selvedgelaw17_shown.mono _
   | exact selvedgeref01_Same.mono _ _ _
   | exact LeO.none _
   | refine LeO.ite ?_ ?_
   | refine LeO.bind ?_ (fun _ => ?_)
set_option maxHeartbeats 8000000 in
set_option maxRecDepth 100000 in
theorem selvedgelaw17_PaperAgain.calls (k : Nat) (a0_0 : ByteArray) (a0_1 : ByteArray) (a0_2 : Int) (a0_3 : Bool) (a1 : Int) (a2 : Int) (r : Bool) (w : World) (h : selvedgelaw17_PaperAgain.f k a0_0 a0_1 a0_2 a0_3 a1 a2 = some r) :
  Calls Try.prog 13 #[.agg #[.string a0_0, .string a0_1, .int .i64 a0_2, .bool a0_3], .int .i64 a1, .int .i64 a2] w fun e w' => e = .returned (.bool r) ∧ Below w.heap.size w w' := by
 have hu60 := Try.underlying60
 have HB := Aside0.mk (Below.refl w.heap.size w)
 have H : ((selvedgelaw17_shown.f k).bind fun t143 => (if (a0_0.size : Int) > 1048576 then (selvedgelaw17_PaperAgain.j0 k a1 a2 t143 true a0_0 a0_1 a0_2 a0_3) else (selvedgelaw17_PaperAgain.j0 k a1 a2 t143 (decide ((a0_1.size : Int) > 1048576)) a0_0 a0_1 a0_2 a0_3))) = some r := h
 clear h
 replace H := Option.bind_eq_some_iff.mp H
 obtain ⟨t143, A40, H⟩ := H
 replace H : (if (a0_0.size : Int) > 1048576 then (selvedgelaw17_PaperAgain.j0 k a1 a2 t143 true a0_0 a0_1 a0_2 a0_3) else (selvedgelaw17_PaperAgain.j0 k a1 a2 t143 (decide ((a0_1.size : Int) > 1048576)) a0_0 a0_1 a0_2 a0_3)) = some r := H
 have A4 := Aside0.mk A40
 clear A40
 have HC5 := Aside0.mk H
 clear H
 go_enter Try.func13, Try.ntmps13
 go_upto_region 2 with (first | ((with_reducible refine gate_dst (N := 3) rfl ?_); (try (refine gate_guard (by rfl) ?_; dsimp only)); refine box_event ?hg (N := 3) ?hd (cs := #[.string a0_0, .string a0_1, .int .i64 a0_2, .bool a0_3]) (t := 60) ?hr ?_; (case hd => rfl); (case hg => rfl); (case hr => first | (go_simp; done) | (go_simp; rfl)); intro gb142 hg w6 hbox hb; have n0_ := Aside0.mk (below_step (by repeat (first | (with_reducible first | exact HB.out | apply below_alloc | apply pw_below_drewN | apply below_drew1) | exact HB.out)) hb); have n1_ := Aside0.mk (hbox); have n2_ := Aside0.mk ((by rw [hg]; exact (below_size (by repeat (first | (with_reducible first | exact HB.out | apply below_alloc | apply pw_below_drewN | apply below_drew1) | exact HB.out))) : w.heap.size ≤ gb142)); have n3_ := Aside0.mk ((by rw [hg]; exact (below_size (by repeat (first | (with_reducible first | exact HB.out | apply below_alloc | apply pw_below_drewN | apply below_drew1) | exact HB.out))) : w.heap.size ≤ gb142)); clear HB; have HB := n0_; have BK142 := n1_; have GW142 := n2_; have GE142 := n3_; clear n0_ n1_ n2_ n3_; clear hb hbox hg) | ((with_reducible refine gate_callee (f := 31) rfl ?_); refine goesL_ (some 15) rfl rfl Try.func31 (by kernel_rfl) rfl #[] rfl (by (try simp only [List.map_toArray, List.map_cons, List.map_nil]); first | done | rfl | (simp only [List.length_drop, List.length_take]; rfl)) ?_; (with_reducible refine (selvedgelaw17_shown.calls k  t143 _ A4.out).mono ?_); rintro e w7 ⟨rfl, hb⟩; refine ⟨_, rfl, ?_⟩; have n0_ := Aside0.mk (blk_below (g := gb142) (o := .cells #[.string a0_0, .string a0_1, .int .i64 a0_2, .bool a0_3] 60 (0, 0)) (pB BK142.out) hb); have n1_ := Aside0.mk (below_step (by repeat (first | (with_reducible first | exact HB.out | apply below_alloc | apply pw_below_drewN | apply below_drew1 | refine below_set ?_ GE142.out) | exact HB.out)) hb); clear BK142; clear HB; have BK142 := n0_; have HB := n1_; clear n0_ n1_; (try clear hb); (try clear hb2); (try clear hk); (try clear hi)))
 (try simp only [Act.put, List.setIfInBounds_toArray, List.set_cons_zero, List.set_cons_succ])
 go_cut [25] (fun v25 wc => ∃ (kq : Nat) (x25_4 : Bool), v25 = .bool x25_4 ∧ Aside0 (selvedgelaw17_PaperAgain.j0 kq a1 a2 t143 x25_4 a0_0 a0_1 a0_2 a0_3 = some r) ∧ Aside0 (kq ≤ k) ∧ Aside0 (wc.heap[gb142]? = some (.cells #[.string a0_0, .string a0_1, .int .i64 a0_2, .bool a0_3] 60 (0, 0))) ∧ Aside0 (Below w.heap.size w wc))
 case first =>
  have H := HC5.out
  clear HC5
  by_cases c8 : (a0_0.size : Int) > 1048576
  ·
   rw [if_pos c8] at H
   have c8b0 : decide (1048576 < (a0_0.size : Int)) = true := decide_eq_true c8
   have c8b1 : decide (1048576 < a0_0.size) = true := decide_eq_true (by omega)
   clear c8
   (first | rw [c8b0] | (simp only [i64_w, i32_w]; rw [c8b0]) | skip)
   have H' := Aside0.mk H
   clear H
   have hcz9_0 : w7.cell? ⟨gb142, 0, none⟩ = some (.string a0_0) := (blk_cell BK142.out 0).trans rfl
   have hcz9_1 : w7.cell? ⟨gb142, 1, none⟩ = some (.string a0_1) := (blk_cell BK142.out 1).trans rfl
   have hcz9_2 : w7.cell? ⟨gb142, 2, none⟩ = some (.int .i64 a0_2) := (blk_cell BK142.out 2).trans rfl
   have hcz9_3 : w7.cell? ⟨gb142, 3, none⟩ = some (.bool a0_3) := (blk_cell BK142.out 3).trans rfl
   have hfz9_0 := blk_frozen BK142.out 0
   have hfz9_1 := blk_frozen BK142.out 1
   have hfz9_2 := blk_frozen BK142.out 2
   have hfz9_3 := blk_frozen BK142.out 3
   go_wp2
   go_meet
   case rel => exact ⟨_, (true), (by first | rfl | (simp; done) | (simp [*]; done)), H', ⟨by first | omega | exact Nat.le_refl _⟩, ⟨by (with_reducible repeat (first | refine blk_drewN ?_ _ | refine blk_drew ?_ | refine blk_alloc ?_ _)); exact BK142.out⟩, ⟨by repeat (first | (with_reducible first | exact HB.out | apply below_alloc | apply pw_below_drewN | apply below_drew1 | refine below_set ?_ GE142.out) | exact HB.out)⟩⟩
  ·
   rw [if_neg c8] at H
   have c8b0 : decide (1048576 < (a0_0.size : Int)) = false := decide_eq_false c8
   have c8b1 : decide (1048576 < a0_0.size) = false := decide_eq_false (by omega)
   clear c8
   (first | rw [c8b0] | (simp only [i64_w, i32_w]; rw [c8b0]) | skip)
   have H' := Aside0.mk H
   clear H
   have hcz10_0 : w7.cell? ⟨gb142, 0, none⟩ = some (.string a0_0) := (blk_cell BK142.out 0).trans rfl
   have hcz10_1 : w7.cell? ⟨gb142, 1, none⟩ = some (.string a0_1) := (blk_cell BK142.out 1).trans rfl
   have hcz10_2 : w7.cell? ⟨gb142, 2, none⟩ = some (.int .i64 a0_2) := (blk_cell BK142.out 2).trans rfl
   have hcz10_3 : w7.cell? ⟨gb142, 3, none⟩ = some (.bool a0_3) := (blk_cell BK142.out 3).trans rfl
   have hfz10_0 := blk_frozen BK142.out 0
   have hfz10_1 := blk_frozen BK142.out 1
   have hfz10_2 := blk_frozen BK142.out 2
   have hfz10_3 := blk_frozen BK142.out 3
   go_wp2
   go_meet
   case rel => exact ⟨_, (decide ((a0_1.size : Int) > 1048576)), (by first | rfl | (simp; done) | (simp [*]; done)), H', ⟨by first | omega | exact Nat.le_refl _⟩, ⟨by (with_reducible repeat (first | refine blk_drewN ?_ _ | refine blk_drew ?_ | refine blk_alloc ?_ _)); exact BK142.out⟩, ⟨by repeat (first | (with_reducible first | exact HB.out | apply below_alloc | apply pw_below_drewN | apply below_drew1 | refine below_set ?_ GE142.out) | exact HB.out)⟩⟩
 case rest =>
  clear HC5
  try clear c1
  try clear p2
  try clear c3
  try clear c8
  try clear c8b0
  try clear c8b1
  try clear hcz10_0
  try clear hcz10_1
  try clear hcz10_2
  try clear hcz10_3
  try clear hcz9_0
  try clear hcz9_1
  try clear hcz9_2
  try clear hcz9_3
  try clear hfz10_0
  try clear hfz10_1
  try clear hfz10_2
  try clear hfz10_3
  try clear hfz9_0
  try clear hfz9_1
  try clear hfz9_2
  try clear hfz9_3
  obtain ⟨kq, x25_4, rfl, HA, HJ4, BK142, HB⟩ := hcut
  cases kq with
  | zero => exact absurd HA.out (by simp [selvedgelaw17_PaperAgain.j0])
  | succ kj4 =>
   have H := HA.out
   clear HA
   simp only [selvedgelaw17_PaperAgain.j0] at H
   by_cases c11 : x25_4 = true
   ·
    subst c11
    have H1 : (some t143) = some r := by rw [if_pos rfl] at H; exact H
    clear H
    have H := H1
    clear H1
    obtain rfl := Option.some.inj H
    go_wp2
    go_ret
    exact ⟨by first | rfl | (simp [errW_none, errW_some] <;> rfl) | (simp [*, errW_none, errW_some] <;> rfl), by repeat (first | (with_reducible first | exact HB.out | apply below_alloc | apply pw_below_drewN | apply below_drew1 | refine below_set ?_ GE142.out) | exact HB.out)⟩
   ·
    replace c11 := Bool.eq_false_iff.mpr c11
    subst c11
    have H1 : ((paper_Crash.f kj4 a0_0 a0_1 a0_2 a0_3 a1).bind fun bt144 => ((paper_Crash.f kj4 bt144.1 bt144.2.1 bt144.2.2.1 bt144.2.2.2 a2).bind fun bt149 => ((paper_Sync.f a0_0 a0_1 a0_2 a0_3).bind fun bt154 => ((paper_Sync.f bt154.1 bt154.2.1 bt154.2.2.1 bt154.2.2.2.1).bind fun bt160 => ((paper_Records.f kj4 a0_0 a0_1 a0_2 a0_3).bind fun t166 => ((paper_Records.f kj4 bt154.1 bt154.2.1 bt154.2.2.1 bt154.2.2.2.1).bind fun t169 => ((selvedgeref01_Same.f kj4 t166 t169).bind fun t172 => (if t143 = true then (if (bt144.1.toList == bt149.1.toList && (bt144.2.1.toList == bt149.2.1.toList && (bt144.2.2.1 == bt149.2.2.1 && (bt144.2.2.2 == bt149.2.2.2)))) = true then (if bt154.2.2.2.2 = bt160.2.2.2.2 then (if (bt154.1.toList == bt160.1.toList && (bt154.2.1.toList == bt160.2.1.toList && (bt154.2.2.1 == bt160.2.2.1 && (bt154.2.2.2.1 == bt160.2.2.2.1)))) = true then (some t172) else (some false)) else (some false)) else (some false)) else (some false))))))))) = some r := by rw [if_neg (show ¬ (false = true) by decide)] at H; exact H
    clear H
    have H := H1
    clear H1
    replace H := Option.bind_eq_some_iff.mp H
    obtain ⟨⟨t144, t145, t146, t147⟩, A120, H⟩ := H
    replace H : ((paper_Crash.f kj4 t144 t145 t146 t147 a2).bind fun bt149 => ((paper_Sync.f a0_0 a0_1 a0_2 a0_3).bind fun bt154 => ((paper_Sync.f bt154.1 bt154.2.1 bt154.2.2.1 bt154.2.2.2.1).bind fun bt160 => ((paper_Records.f kj4 a0_0 a0_1 a0_2 a0_3).bind fun t166 => ((paper_Records.f kj4 bt154.1 bt154.2.1 bt154.2.2.1 bt154.2.2.2.1).bind fun t169 => ((selvedgeref01_Same.f kj4 t166 t169).bind fun t172 => (if t143 = true then (if (t144.toList == bt149.1.toList && (t145.toList == bt149.2.1.toList && (t146 == bt149.2.2.1 && (t147 == bt149.2.2.2)))) = true then (if bt154.2.2.2.2 = bt160.2.2.2.2 then (if (bt154.1.toList == bt160.1.toList && (bt154.2.1.toList == bt160.2.1.toList && (bt154.2.2.1 == bt160.2.2.1 && (bt154.2.2.2.1 == bt160.2.2.2.1)))) = true then (some t172) else (some false)) else (some false)) else (some false)) else (some false)))))))) = some r := H
    have A12 := Aside0.mk A120
    clear A120
    replace H := Option.bind_eq_some_iff.mp H
    obtain ⟨⟨t149, t150, t151, t152⟩, A130, H⟩ := H
    replace H : ((paper_Sync.f a0_0 a0_1 a0_2 a0_3).bind fun bt154 => ((paper_Sync.f bt154.1 bt154.2.1 bt154.2.2.1 bt154.2.2.2.1).bind fun bt160 => ((paper_Records.f kj4 a0_0 a0_1 a0_2 a0_3).bind fun t166 => ((paper_Records.f kj4 bt154.1 bt154.2.1 bt154.2.2.1 bt154.2.2.2.1).bind fun t169 => ((selvedgeref01_Same.f kj4 t166 t169).bind fun t172 => (if t143 = true then (if (t144.toList == t149.toList && (t145.toList == t150.toList && (t146 == t151 && (t147 == t152)))) = true then (if bt154.2.2.2.2 = bt160.2.2.2.2 then (if (bt154.1.toList == bt160.1.toList && (bt154.2.1.toList == bt160.2.1.toList && (bt154.2.2.1 == bt160.2.2.1 && (bt154.2.2.2.1 == bt160.2.2.2.1)))) = true then (some t172) else (some false)) else (some false)) else (some false)) else (some false))))))) = some r := H
    have A13 := Aside0.mk A130
    clear A130
    replace H := Option.bind_eq_some_iff.mp H
    obtain ⟨⟨t154, t155, t156, t157, t158⟩, A140, H⟩ := H
    replace H : ((paper_Sync.f t154 t155 t156 t157).bind fun bt160 => ((paper_Records.f kj4 a0_0 a0_1 a0_2 a0_3).bind fun t166 => ((paper_Records.f kj4 t154 t155 t156 t157).bind fun t169 => ((selvedgeref01_Same.f kj4 t166 t169).bind fun t172 => (if t143 = true then (if (t144.toList == t149.toList && (t145.toList == t150.toList && (t146 == t151 && (t147 == t152)))) = true then (if t158 = bt160.2.2.2.2 then (if (t154.toList == bt160.1.toList && (t155.toList == bt160.2.1.toList && (t156 == bt160.2.2.1 && (t157 == bt160.2.2.2.1)))) = true then (some t172) else (some false)) else (some false)) else (some false)) else (some false)))))) = some r := H
    have A14 := Aside0.mk A140
    clear A140
    replace H := Option.bind_eq_some_iff.mp H
    obtain ⟨⟨t160, t161, t162, t163, t164⟩, A150, H⟩ := H
    replace H : ((paper_Records.f kj4 a0_0 a0_1 a0_2 a0_3).bind fun t166 => ((paper_Records.f kj4 t154 t155 t156 t157).bind fun t169 => ((selvedgeref01_Same.f kj4 t166 t169).bind fun t172 => (if t143 = true then (if (t144.toList == t149.toList && (t145.toList == t150.toList && (t146 == t151 && (t147 == t152)))) = true then (if t158 = t164 then (if (t154.toList == t160.toList && (t155.toList == t161.toList && (t156 == t162 && (t157 == t163)))) = true then (some t172) else (some false)) else (some false)) else (some false)) else (some false))))) = some r := H
    have A15 := Aside0.mk A150
    clear A150
    replace H := Option.bind_eq_some_iff.mp H
    obtain ⟨t166, A160, H⟩ := H
    replace H : ((paper_Records.f kj4 t154 t155 t156 t157).bind fun t169 => ((selvedgeref01_Same.f kj4 t166 t169).bind fun t172 => (if t143 = true then (if (t144.toList == t149.toList && (t145.toList == t150.toList && (t146 == t151 && (t147 == t152)))) = true then (if t158 = t164 then (if (t154.toList == t160.toList && (t155.toList == t161.toList && (t156 == t162 && (t157 == t163)))) = true then (some t172) else (some false)) else (some false)) else (some false)) else (some false)))) = some r := H
    have A16 := Aside0.mk A160
    clear A160
    replace H := Option.bind_eq_some_iff.mp H
    obtain ⟨t169, A170, H⟩ := H
    replace H : ((selvedgeref01_Same.f kj4 t166 t169).bind fun t172 => (if t143 = true then (if (t144.toList == t149.toList && (t145.toList == t150.toList && (t146 == t151 && (t147 == t152)))) = true then (if t158 = t164 then (if (t154.toList == t160.toList && (t155.toList == t161.toList && (t156 == t162 && (t157 == t163)))) = true then (some t172) else (some false)) else (some false)) else (some false)) else (some false))) = some r := H
    have A17 := Aside0.mk A170
    clear A170
    replace H := Option.bind_eq_some_iff.mp H
    obtain ⟨t172, A180, H⟩ := H
    replace H : (if t143 = true then (if (t144.toList == t149.toList && (t145.toList == t150.toList && (t146 == t151 && (t147 == t152)))) = true then (if t158 = t164 then (if (t154.toList == t160.toList && (t155.toList == t161.toList && (t156 == t162 && (t157 == t163)))) = true then (some t172) else (some false)) else (some false)) else (some false)) else (some false)) = some r := H
    have A18 := Aside0.mk A180
    clear A180
    by_cases c19 : t143 = true
    ·
     subst c19
     have H1 : (if (t144.toList == t149.toList && (t145.toList == t150.toList && (t146 == t151 && (t147 == t152)))) = true then (if t158 = t164 then (if (t154.toList == t160.toList && (t155.toList == t161.toList && (t156 == t162 && (t157 == t163)))) = true then (some t172) else (some false)) else (some false)) else (some false)) = some r := by rw [if_pos rfl] at H; exact H
     clear H
     have H := H1
     clear H1
     by_cases c20 : (t144.toList == t149.toList && (t145.toList == t150.toList && (t146 == t151 && (t147 == t152)))) = true
     ·
      rw [if_pos c20] at H
      have c20b0 : (t144.toList == t149.toList && (t145.toList == t150.toList && (t146 == t151 && (t147 == t152)))) = true := c20
      (try (have c20b1 : decide (t144.toList = t149.toList && (t145.toList == t150.toList && (t146 == t151 && (t147 == t152)))) = true := by simpa using c20))
      (try (have c20b2 : (t144.toList == t149.toList && (t145.toList == t150.toList && (t146 == t151 && (t147 == t152)))) = true := by simpa using c20))
      clear c20
      by_cases c21 : t158 = t164
      ·
       rw [if_pos c21] at H
       have c21b0 : (t158 == t164) = true := beq_iff_eq.mpr c21
       have c21b1 : (t158 != t164) = false := bne_eq_false_iff_eq.mpr c21
       clear c21
       by_cases c22 : (t154.toList == t160.toList && (t155.toList == t161.toList && (t156 == t162 && (t157 == t163)))) = true
       ·
        rw [if_pos c22] at H
        have c22b0 : (t154.toList == t160.toList && (t155.toList == t161.toList && (t156 == t162 && (t157 == t163)))) = true := c22
        (try (have c22b1 : decide (t154.toList = t160.toList && (t155.toList == t161.toList && (t156 == t162 && (t157 == t163)))) = true := by simpa using c22))
        (try (have c22b2 : (t154.toList == t160.toList && (t155.toList == t161.toList && (t156 == t162 && (t157 == t163)))) = true := by simpa using c22))
        clear c22
        obtain rfl := Option.some.inj H
        have hcz23_0 : wc.cell? ⟨gb142, 0, none⟩ = some (.string a0_0) := (blk_cell BK142.out 0).trans rfl
        have hcz23_1 : wc.cell? ⟨gb142, 1, none⟩ = some (.string a0_1) := (blk_cell BK142.out 1).trans rfl
        have hcz23_2 : wc.cell? ⟨gb142, 2, none⟩ = some (.int .i64 a0_2) := (blk_cell BK142.out 2).trans rfl
        have hcz23_3 : wc.cell? ⟨gb142, 3, none⟩ = some (.bool a0_3) := (blk_cell BK142.out 3).trans rfl
        have hfz23_0 := blk_frozen BK142.out 0
        have hfz23_1 := blk_frozen BK142.out 1
        have hfz23_2 := blk_frozen BK142.out 2
        have hfz23_3 := blk_frozen BK142.out 3
        try go_wp2_with (first | ((with_reducible refine gate_callee (f := 39) rfl ?_); refine goesL_ (some 29) rfl rfl Try.func39 (by kernel_rfl) rfl #[.agg #[.string a0_0, .string a0_1, .int .i64 a0_2, .bool a0_3], .int .i64 a1] rfl (by (try simp only [List.map_toArray, List.map_cons, List.map_nil]); first | done | rfl | (simp only [List.length_drop, List.length_take]; rfl)) ?_; (with_reducible refine (paper_Crash.calls kj4 a0_0 a0_1 a0_2 a0_3 a1 t144 t145 t146 t147 _ A12.out).mono ?_); rintro e w24 ⟨rfl, hb⟩; refine ⟨_, rfl, ?_⟩; have n0_ := Aside0.mk (blk_below (g := gb142) (o := .cells #[.string a0_0, .string a0_1, .int .i64 a0_2, .bool a0_3] 60 (0, 0)) (pB BK142.out) hb); have n1_ := Aside0.mk (below_step (by repeat (first | (with_reducible first | exact HB.out | apply below_alloc | apply pw_below_drewN | apply below_drew1 | refine below_set ?_ GE142.out) | exact HB.out)) hb); clear BK142; clear HB; have BK142 := n0_; have HB := n1_; clear n0_ n1_; (try clear hb); (try clear hb2); (try clear hk); (try clear hi)) | ((with_reducible refine gate_dst (N := 8) rfl ?_); (try (refine gate_guard (by rfl) ?_; dsimp only)); refine box_event ?hg (N := 8) ?hd (cs := #[.string (⟨#[]⟩ : ByteArray), .string (⟨#[]⟩ : ByteArray), .int .i64 0, .bool false]) (t := 60) ?hr ?_; (case hd => rfl); (case hg => rfl); (case hr => first | (go_simp; done) | (go_simp; rfl)); intro gb148 hg w25 hbox hb; have n0_ := Aside0.mk (blk_below (g := gb142) (o := .cells #[.string a0_0, .string a0_1, .int .i64 a0_2, .bool a0_3] 60 (0, 0)) (pB BK142.out) hb); have n1_ := Aside0.mk (below_step (by repeat (first | (with_reducible first | exact HB.out | apply below_alloc | apply pw_below_drewN | apply below_drew1 | refine below_set ?_ GE142.out) | exact HB.out)) hb); have n2_ := Aside0.mk (hbox); have n3_ := Aside0.mk ((by rw [hg]; exact (below_size (by repeat (first | (with_reducible first | exact HB.out | apply below_alloc | apply pw_below_drewN | apply below_drew1 | refine below_set ?_ GE142.out) | exact HB.out))) : w.heap.size ≤ gb148)); have n4_ := Aside0.mk ((by rw [hg]; exact (below_size (by repeat (first | (with_reducible first | exact HB.out | apply below_alloc | apply pw_below_drewN | apply below_drew1 | refine below_set ?_ GE142.out) | exact HB.out))) : w.heap.size ≤ gb148)); have n5_ := Aside0.mk ((by rw [hg]; exact Nat.ne_of_lt (blk_lt (g := gb142) (o := .cells #[.string a0_0, .string a0_1, .int .i64 a0_2, .bool a0_3] 60 (0, 0)) (pB BK142.out)) : gb142 ≠ gb148)); have n6_ := Aside0.mk ((by rw [hg]; exact Nat.ne_of_gt (blk_lt (g := gb142) (o := .cells #[.string a0_0, .string a0_1, .int .i64 a0_2, .bool a0_3] 60 (0, 0)) (pB BK142.out)) : gb148 ≠ gb142)); clear BK142; clear HB; have BK142 := n0_; have HB := n1_; have BK148 := n2_; have GW148 := n3_; have GE148 := n4_; have NB142_148 := n5_; have NB148_142 := n6_; clear n0_ n1_ n2_ n3_ n4_ n5_ n6_; clear hb hbox hg; have hnb26 := NB148_142.out; have hnc26 := NB142_148.out; have hcz27_0 : w25.cell? ⟨gb148, 0, none⟩ = some (.string (⟨#[]⟩ : ByteArray)) := (blk_cell BK148.out 0).trans rfl; have hcz27_1 : w25.cell? ⟨gb148, 1, none⟩ = some (.string (⟨#[]⟩ : ByteArray)) := (blk_cell BK148.out 1).trans rfl; have hcz27_2 : w25.cell? ⟨gb148, 2, none⟩ = some (.int .i64 0) := (blk_cell BK148.out 2).trans rfl; have hcz27_3 : w25.cell? ⟨gb148, 3, none⟩ = some (.bool false) := (blk_cell BK148.out 3).trans rfl; have hfz27_0 := blk_frozen BK148.out 0; have hfz27_1 := blk_frozen BK148.out 1; have hfz27_2 := blk_frozen BK148.out 2; have hfz27_3 := blk_frozen BK148.out 3) | ((with_reducible refine gate_callee (f := 39) rfl ?_); refine goesL_ (some 32) rfl rfl Try.func39 (by kernel_rfl) rfl #[.agg #[.string t144, .string t145, .int .i64 t146, .bool t147], .int .i64 a2] rfl (by (try simp only [List.map_toArray, List.map_cons, List.map_nil]); first | done | rfl | (simp only [List.length_drop, List.length_take]; rfl)) ?_; (with_reducible refine (paper_Crash.calls kj4 t144 t145 t146 t147 a2 t149 t150 t151 t152 _ A13.out).mono ?_); rintro e w28 ⟨rfl, hb⟩; refine ⟨_, rfl, ?_⟩; have n0_ := Aside0.mk (blk_below (g := gb142) (o := .cells #[.string a0_0, .string a0_1, .int .i64 a0_2, .bool a0_3] 60 (0, 0)) (by (with_reducible repeat (first | refine blk_drewN ?_ _ | refine blk_drew ?_ | refine blk_alloc ?_ _)); refine blk_far ?_ NB142_148.out _; (with_reducible repeat (first | refine blk_drewN ?_ _ | refine blk_drew ?_ | refine blk_alloc ?_ _)); refine blk_far ?_ NB142_148.out _; (with_reducible repeat (first | refine blk_drewN ?_ _ | refine blk_drew ?_ | refine blk_alloc ?_ _)); refine blk_far ?_ NB142_148.out _; (with_reducible repeat (first | refine blk_drewN ?_ _ | refine blk_drew ?_ | refine blk_alloc ?_ _)); refine blk_far ?_ NB142_148.out _; (with_reducible repeat (first | refine blk_drewN ?_ _ | refine blk_drew ?_ | refine blk_alloc ?_ _)); exact BK142.out) hb); have n1_ := Aside0.mk (blk_below (g := gb148) (o := .cells #[.string t144, .string t145, .int .i64 t146, .bool t147] 60 (0, 0)) (by (with_reducible repeat (first | refine blk_drewN ?_ _ | refine blk_drew ?_ | refine blk_alloc ?_ _)); refine blk_put (cs := #[.string t144, .string t145, .int .i64 t146, .bool false]) ?_ 3 _ rfl; (with_reducible repeat (first | refine blk_drewN ?_ _ | refine blk_drew ?_ | refine blk_alloc ?_ _)); refine blk_put (cs := #[.string t144, .string t145, .int .i64 0, .bool false]) ?_ 2 _ rfl; (with_reducible repeat (first | refine blk_drewN ?_ _ | refine blk_drew ?_ | refine blk_alloc ?_ _)); refine blk_put (cs := #[.string t144, .string (⟨#[]⟩ : ByteArray), .int .i64 0, .bool false]) ?_ 1 _ rfl; (with_reducible repeat (first | refine blk_drewN ?_ _ | refine blk_drew ?_ | refine blk_alloc ?_ _)); refine blk_put (cs := #[.string (⟨#[]⟩ : ByteArray), .string (⟨#[]⟩ : ByteArray), .int .i64 0, .bool false]) ?_ 0 _ rfl; (with_reducible repeat (first | refine blk_drewN ?_ _ | refine blk_drew ?_ | refine blk_alloc ?_ _)); exact BK148.out) hb); have n2_ := Aside0.mk (below_step (by repeat (first | (with_reducible first | exact HB.out | apply below_alloc | apply pw_below_drewN | apply below_drew1 | refine below_set ?_ GE142.out | refine below_set ?_ GE148.out) | exact HB.out)) hb); clear BK142; clear BK148; clear HB; have BK142 := n0_; have BK148 := n1_; have HB := n2_; clear n0_ n1_ n2_; (try clear hb); (try clear hb2); (try clear hk); (try clear hi)) | ((with_reducible refine gate_dst (N := 9) rfl ?_); (try (refine gate_guard (by rfl) ?_; dsimp only)); refine box_event ?hg (N := 9) ?hd (cs := #[.string (⟨#[]⟩ : ByteArray), .string (⟨#[]⟩ : ByteArray), .int .i64 0, .bool false]) (t := 60) ?hr ?_; (case hd => rfl); (case hg => rfl); (case hr => first | (go_simp; done) | (go_simp; rfl)); intro gb153 hg w29 hbox hb; have n0_ := Aside0.mk (blk_below (g := gb142) (o := .cells #[.string a0_0, .string a0_1, .int .i64 a0_2, .bool a0_3] 60 (0, 0)) (pB BK142.out) hb); have n1_ := Aside0.mk (blk_below (g := gb148) (o := .cells #[.string t144, .string t145, .int .i64 t146, .bool t147] 60 (0, 0)) (pB BK148.out) hb); have n2_ := Aside0.mk (below_step (by repeat (first | (with_reducible first | exact HB.out | apply below_alloc | apply pw_below_drewN | apply below_drew1 | refine below_set ?_ GE142.out | refine below_set ?_ GE148.out) | exact HB.out)) hb); have n3_ := Aside0.mk (hbox); have n4_ := Aside0.mk ((by rw [hg]; exact (below_size (by repeat (first | (with_reducible first | exact HB.out | apply below_alloc | apply pw_below_drewN | apply below_drew1 | refine below_set ?_ GE142.out | refine below_set ?_ GE148.out) | exact HB.out))) : w.heap.size ≤ gb153)); have n5_ := Aside0.mk ((by rw [hg]; exact (below_size (by repeat (first | (with_reducible first | exact HB.out | apply below_alloc | apply pw_below_drewN | apply below_drew1 | refine below_set ?_ GE142.out | refine below_set ?_ GE148.out) | exact HB.out))) : w.heap.size ≤ gb153)); have n6_ := Aside0.mk ((by rw [hg]; exact Nat.ne_of_lt (blk_lt (g := gb142) (o := .cells #[.string a0_0, .string a0_1, .int .i64 a0_2, .bool a0_3] 60 (0, 0)) (pB BK142.out)) : gb142 ≠ gb153)); have n7_ := Aside0.mk ((by rw [hg]; exact Nat.ne_of_gt (blk_lt (g := gb142) (o := .cells #[.string a0_0, .string a0_1, .int .i64 a0_2, .bool a0_3] 60 (0, 0)) (pB BK142.out)) : gb153 ≠ gb142)); have n8_ := Aside0.mk ((by rw [hg]; exact Nat.ne_of_lt (blk_lt (g := gb148) (o := .cells #[.string t144, .string t145, .int .i64 t146, .bool t147] 60 (0, 0)) (pB BK148.out)) : gb148 ≠ gb153)); have n9_ := Aside0.mk ((by rw [hg]; exact Nat.ne_of_gt (blk_lt (g := gb148) (o := .cells #[.string t144, .string t145, .int .i64 t146, .bool t147] 60 (0, 0)) (pB BK148.out)) : gb153 ≠ gb148)); clear BK142; clear BK148; clear HB; have BK142 := n0_; have BK148 := n1_; have HB := n2_; have BK153 := n3_; have GW153 := n4_; have GE153 := n5_; have NB142_153 := n6_; have NB153_142 := n7_; have NB148_153 := n8_; have NB153_148 := n9_; clear n0_ n1_ n2_ n3_ n4_ n5_ n6_ n7_ n8_ n9_; clear hb hbox hg; have hnb30 := NB153_142.out; have hnc30 := NB142_153.out; have hnb31 := NB153_148.out; have hnc31 := NB148_153.out; have hcz32_0 : w29.cell? ⟨gb153, 0, none⟩ = some (.string (⟨#[]⟩ : ByteArray)) := (blk_cell BK153.out 0).trans rfl; have hcz32_1 : w29.cell? ⟨gb153, 1, none⟩ = some (.string (⟨#[]⟩ : ByteArray)) := (blk_cell BK153.out 1).trans rfl; have hcz32_2 : w29.cell? ⟨gb153, 2, none⟩ = some (.int .i64 0) := (blk_cell BK153.out 2).trans rfl; have hcz32_3 : w29.cell? ⟨gb153, 3, none⟩ = some (.bool false) := (blk_cell BK153.out 3).trans rfl; have hfz32_0 := blk_frozen BK153.out 0; have hfz32_1 := blk_frozen BK153.out 1; have hfz32_2 := blk_frozen BK153.out 2; have hfz32_3 := blk_frozen BK153.out 3; have hcz33_0 : w29.cell? ⟨gb142, 0, none⟩ = some (.string a0_0) := (blk_cell BK142.out 0).trans rfl; have hcz33_1 : w29.cell? ⟨gb142, 1, none⟩ = some (.string a0_1) := (blk_cell BK142.out 1).trans rfl; have hcz33_2 : w29.cell? ⟨gb142, 2, none⟩ = some (.int .i64 a0_2) := (blk_cell BK142.out 2).trans rfl; have hcz33_3 : w29.cell? ⟨gb142, 3, none⟩ = some (.bool a0_3) := (blk_cell BK142.out 3).trans rfl; have hfz33_0 := blk_frozen BK142.out 0; have hfz33_1 := blk_frozen BK142.out 1; have hfz33_2 := blk_frozen BK142.out 2; have hfz33_3 := blk_frozen BK142.out 3) | ((with_reducible refine gate_callee (f := 38) rfl ?_); refine goesL_ (some 35) rfl rfl Try.func38 (by kernel_rfl) rfl #[.agg #[.string a0_0, .string a0_1, .int .i64 a0_2, .bool a0_3]] rfl (by (try simp only [List.map_toArray, List.map_cons, List.map_nil]); first | done | rfl | (simp only [List.length_drop, List.length_take]; rfl)) ?_; (with_reducible refine (paper_Sync.calls a0_0 a0_1 a0_2 a0_3 t154 t155 t156 t157 t158 _ A14.out).mono ?_); rintro e w34 ⟨rfl, hb⟩; refine ⟨_, rfl, ?_⟩; have n0_ := Aside0.mk (blk_below (g := gb142) (o := .cells #[.string a0_0, .string a0_1, .int .i64 a0_2, .bool a0_3] 60 (0, 0)) (by (with_reducible repeat (first | refine blk_drewN ?_ _ | refine blk_drew ?_ | refine blk_alloc ?_ _)); refine blk_far ?_ NB142_153.out _; (with_reducible repeat (first | refine blk_drewN ?_ _ | refine blk_drew ?_ | refine blk_alloc ?_ _)); refine blk_far ?_ NB142_153.out _; (with_reducible repeat (first | refine blk_drewN ?_ _ | refine blk_drew ?_ | refine blk_alloc ?_ _)); refine blk_far ?_ NB142_153.out _; (with_reducible repeat (first | refine blk_drewN ?_ _ | refine blk_drew ?_ | refine blk_alloc ?_ _)); refine blk_far ?_ NB142_153.out _; (with_reducible repeat (first | refine blk_drewN ?_ _ | refine blk_drew ?_ | refine blk_alloc ?_ _)); exact BK142.out) hb); have n1_ := Aside0.mk (blk_below (g := gb148) (o := .cells #[.string t144, .string t145, .int .i64 t146, .bool t147] 60 (0, 0)) (by (with_reducible repeat (first | refine blk_drewN ?_ _ | refine blk_drew ?_ | refine blk_alloc ?_ _)); refine blk_far ?_ NB148_153.out _; (with_reducible repeat (first | refine blk_drewN ?_ _ | refine blk_drew ?_ | refine blk_alloc ?_ _)); refine blk_far ?_ NB148_153.out _; (with_reducible repeat (first | refine blk_drewN ?_ _ | refine blk_drew ?_ | refine blk_alloc ?_ _)); refine blk_far ?_ NB148_153.out _; (with_reducible repeat (first | refine blk_drewN ?_ _ | refine blk_drew ?_ | refine blk_alloc ?_ _)); refine blk_far ?_ NB148_153.out _; (with_reducible repeat (first | refine blk_drewN ?_ _ | refine blk_drew ?_ | refine blk_alloc ?_ _)); exact BK148.out) hb); have n2_ := Aside0.mk (blk_below (g := gb153) (o := .cells #[.string t149, .string t150, .int .i64 t151, .bool t152] 60 (0, 0)) (by (with_reducible repeat (first | refine blk_drewN ?_ _ | refine blk_drew ?_ | refine blk_alloc ?_ _)); refine blk_put (cs := #[.string t149, .string t150, .int .i64 t151, .bool false]) ?_ 3 _ rfl; (with_reducible repeat (first | refine blk_drewN ?_ _ | refine blk_drew ?_ | refine blk_alloc ?_ _)); refine blk_put (cs := #[.string t149, .string t150, .int .i64 0, .bool false]) ?_ 2 _ rfl; (with_reducible repeat (first | refine blk_drewN ?_ _ | refine blk_drew ?_ | refine blk_alloc ?_ _)); refine blk_put (cs := #[.string t149, .string (⟨#[]⟩ : ByteArray), .int .i64 0, .bool false]) ?_ 1 _ rfl; (with_reducible repeat (first | refine blk_drewN ?_ _ | refine blk_drew ?_ | refine blk_alloc ?_ _)); refine blk_put (cs := #[.string (⟨#[]⟩ : ByteArray), .string (⟨#[]⟩ : ByteArray), .int .i64 0, .bool false]) ?_ 0 _ rfl; (with_reducible repeat (first | refine blk_drewN ?_ _ | refine blk_drew ?_ | refine blk_alloc ?_ _)); exact BK153.out) hb); have n3_ := Aside0.mk (below_step (by repeat (first | (with_reducible first | exact HB.out | apply below_alloc | apply pw_below_drewN | apply below_drew1 | refine below_set ?_ GE142.out | refine below_set ?_ GE148.out | refine below_set ?_ GE153.out) | exact HB.out)) hb); clear BK142; clear BK148; clear BK153; clear HB; have BK142 := n0_; have BK148 := n1_; have BK153 := n2_; have HB := n3_; clear n0_ n1_ n2_ n3_; (try clear hb); (try clear hb2); (try clear hk); (try clear hi)) | ((with_reducible refine gate_dst (N := 10) rfl ?_); (try (refine gate_guard (by rfl) ?_; dsimp only)); refine box_event ?hg (N := 10) ?hd (cs := #[.string (⟨#[]⟩ : ByteArray), .string (⟨#[]⟩ : ByteArray), .int .i64 0, .bool false]) (t := 60) ?hr ?_; (case hd => rfl); (case hg => rfl); (case hr => first | (go_simp; done) | (go_simp; rfl)); intro gb159 hg w35 hbox hb; have n0_ := Aside0.mk (blk_below (g := gb142) (o := .cells #[.string a0_0, .string a0_1, .int .i64 a0_2, .bool a0_3] 60 (0, 0)) (pB BK142.out) hb); have n1_ := Aside0.mk (blk_below (g := gb148) (o := .cells #[.string t144, .string t145, .int .i64 t146, .bool t147] 60 (0, 0)) (pB BK148.out) hb); have n2_ := Aside0.mk (blk_below (g := gb153) (o := .cells #[.string t149, .string t150, .int .i64 t151, .bool t152] 60 (0, 0)) (pB BK153.out) hb); have n3_ := Aside0.mk (below_step (by repeat (first | (with_reducible first | exact HB.out | apply below_alloc | apply pw_below_drewN | apply below_drew1 | refine below_set ?_ GE142.out | refine below_set ?_ GE148.out | refine below_set ?_ GE153.out) | exact HB.out)) hb); have n4_ := Aside0.mk (hbox); have n5_ := Aside0.mk ((by rw [hg]; exact (below_size (by repeat (first | (with_reducible first | exact HB.out | apply below_alloc | apply pw_below_drewN | apply below_drew1 | refine below_set ?_ GE142.out | refine below_set ?_ GE148.out | refine below_set ?_ GE153.out) | exact HB.out))) : w.heap.size ≤ gb159)); have n6_ := Aside0.mk ((by rw [hg]; exact (below_size (by repeat (first | (with_reducible first | exact HB.out | apply below_alloc | apply pw_below_drewN | apply below_drew1 | refine below_set ?_ GE142.out | refine below_set ?_ GE148.out | refine below_set ?_ GE153.out) | exact HB.out))) : w.heap.size ≤ gb159)); have n7_ := Aside0.mk ((by rw [hg]; exact Nat.ne_of_lt (blk_lt (g := gb142) (o := .cells #[.string a0_0, .string a0_1, .int .i64 a0_2, .bool a0_3] 60 (0, 0)) (pB BK142.out)) : gb142 ≠ gb159)); have n8_ := Aside0.mk ((by rw [hg]; exact Nat.ne_of_gt (blk_lt (g := gb142) (o := .cells #[.string a0_0, .string a0_1, .int .i64 a0_2, .bool a0_3] 60 (0, 0)) (pB BK142.out)) : gb159 ≠ gb142)); have n9_ := Aside0.mk ((by rw [hg]; exact Nat.ne_of_lt (blk_lt (g := gb148) (o := .cells #[.string t144, .string t145, .int .i64 t146, .bool t147] 60 (0, 0)) (pB BK148.out)) : gb148 ≠ gb159)); have n10_ := Aside0.mk ((by rw [hg]; exact Nat.ne_of_gt (blk_lt (g := gb148) (o := .cells #[.string t144, .string t145, .int .i64 t146, .bool t147] 60 (0, 0)) (pB BK148.out)) : gb159 ≠ gb148)); have n11_ := Aside0.mk ((by rw [hg]; exact Nat.ne_of_lt (blk_lt (g := gb153) (o := .cells #[.string t149, .string t150, .int .i64 t151, .bool t152] 60 (0, 0)) (pB BK153.out)) : gb153 ≠ gb159)); have n12_ := Aside0.mk ((by rw [hg]; exact Nat.ne_of_gt (blk_lt (g := gb153) (o := .cells #[.string t149, .string t150, .int .i64 t151, .bool t152] 60 (0, 0)) (pB BK153.out)) : gb159 ≠ gb153)); clear BK142; clear BK148; clear BK153; clear HB; have BK142 := n0_; have BK148 := n1_; have BK153 := n2_; have HB := n3_; have BK159 := n4_; have GW159 := n5_; have GE159 := n6_; have NB142_159 := n7_; have NB159_142 := n8_; have NB148_159 := n9_; have NB159_148 := n10_; have NB153_159 := n11_; have NB159_153 := n12_; clear n0_ n1_ n2_ n3_ n4_ n5_ n6_ n7_ n8_ n9_ n10_ n11_ n12_; clear hb hbox hg; have hnb36 := NB159_142.out; have hnc36 := NB142_159.out; have hnb37 := NB159_148.out; have hnc37 := NB148_159.out; have hnb38 := NB159_153.out; have hnc38 := NB153_159.out; have hcz39_0 : w35.cell? ⟨gb159, 0, none⟩ = some (.string (⟨#[]⟩ : ByteArray)) := (blk_cell BK159.out 0).trans rfl; have hcz39_1 : w35.cell? ⟨gb159, 1, none⟩ = some (.string (⟨#[]⟩ : ByteArray)) := (blk_cell BK159.out 1).trans rfl; have hcz39_2 : w35.cell? ⟨gb159, 2, none⟩ = some (.int .i64 0) := (blk_cell BK159.out 2).trans rfl; have hcz39_3 : w35.cell? ⟨gb159, 3, none⟩ = some (.bool false) := (blk_cell BK159.out 3).trans rfl; have hfz39_0 := blk_frozen BK159.out 0; have hfz39_1 := blk_frozen BK159.out 1; have hfz39_2 := blk_frozen BK159.out 2; have hfz39_3 := blk_frozen BK159.out 3) | ((with_reducible refine gate_callee (f := 38) rfl ?_); refine goesL_ (some 40) rfl rfl Try.func38 (by kernel_rfl) rfl #[.agg #[.string t154, .string t155, .int .i64 t156, .bool t157]] rfl (by (try simp only [List.map_toArray, List.map_cons, List.map_nil]); first | done | rfl | (simp only [List.length_drop, List.length_take]; rfl)) ?_; (with_reducible refine (paper_Sync.calls t154 t155 t156 t157 t160 t161 t162 t163 t164 _ A15.out).mono ?_); rintro e w40 ⟨rfl, hb⟩; refine ⟨_, rfl, ?_⟩; have n0_ := Aside0.mk (blk_below (g := gb142) (o := .cells #[.string a0_0, .string a0_1, .int .i64 a0_2, .bool a0_3] 60 (0, 0)) (by (with_reducible repeat (first | refine blk_drewN ?_ _ | refine blk_drew ?_ | refine blk_alloc ?_ _)); refine blk_far ?_ NB142_159.out _; (with_reducible repeat (first | refine blk_drewN ?_ _ | refine blk_drew ?_ | refine blk_alloc ?_ _)); refine blk_far ?_ NB142_159.out _; (with_reducible repeat (first | refine blk_drewN ?_ _ | refine blk_drew ?_ | refine blk_alloc ?_ _)); refine blk_far ?_ NB142_159.out _; (with_reducible repeat (first | refine blk_drewN ?_ _ | refine blk_drew ?_ | refine blk_alloc ?_ _)); refine blk_far ?_ NB142_159.out _; (with_reducible repeat (first | refine blk_drewN ?_ _ | refine blk_drew ?_ | refine blk_alloc ?_ _)); exact BK142.out) hb); have n1_ := Aside0.mk (blk_below (g := gb148) (o := .cells #[.string t144, .string t145, .int .i64 t146, .bool t147] 60 (0, 0)) (by (with_reducible repeat (first | refine blk_drewN ?_ _ | refine blk_drew ?_ | refine blk_alloc ?_ _)); refine blk_far ?_ NB148_159.out _; (with_reducible repeat (first | refine blk_drewN ?_ _ | refine blk_drew ?_ | refine blk_alloc ?_ _)); refine blk_far ?_ NB148_159.out _; (with_reducible repeat (first | refine blk_drewN ?_ _ | refine blk_drew ?_ | refine blk_alloc ?_ _)); refine blk_far ?_ NB148_159.out _; (with_reducible repeat (first | refine blk_drewN ?_ _ | refine blk_drew ?_ | refine blk_alloc ?_ _)); refine blk_far ?_ NB148_159.out _; (with_reducible repeat (first | refine blk_drewN ?_ _ | refine blk_drew ?_ | refine blk_alloc ?_ _)); exact BK148.out) hb); have n2_ := Aside0.mk (blk_below (g := gb153) (o := .cells #[.string t149, .string t150, .int .i64 t151, .bool t152] 60 (0, 0)) (by (with_reducible repeat (first | refine blk_drewN ?_ _ | refine blk_drew ?_ | refine blk_alloc ?_ _)); refine blk_far ?_ NB153_159.out _; (with_reducible repeat (first | refine blk_drewN ?_ _ | refine blk_drew ?_ | refine blk_alloc ?_ _)); refine blk_far ?_ NB153_159.out _; (with_reducible repeat (first | refine blk_drewN ?_ _ | refine blk_drew ?_ | refine blk_alloc ?_ _)); refine blk_far ?_ NB153_159.out _; (with_reducible repeat (first | refine blk_drewN ?_ _ | refine blk_drew ?_ | refine blk_alloc ?_ _)); refine blk_far ?_ NB153_159.out _; (with_reducible repeat (first | refine blk_drewN ?_ _ | refine blk_drew ?_ | refine blk_alloc ?_ _)); exact BK153.out) hb); have n3_ := Aside0.mk (blk_below (g := gb159) (o := .cells #[.string t154, .string t155, .int .i64 t156, .bool t157] 60 (0, 0)) (by (with_reducible repeat (first | refine blk_drewN ?_ _ | refine blk_drew ?_ | refine blk_alloc ?_ _)); refine blk_put (cs := #[.string t154, .string t155, .int .i64 t156, .bool false]) ?_ 3 _ rfl; (with_reducible repeat (first | refine blk_drewN ?_ _ | refine blk_drew ?_ | refine blk_alloc ?_ _)); refine blk_put (cs := #[.string t154, .string t155, .int .i64 0, .bool false]) ?_ 2 _ rfl; (with_reducible repeat (first | refine blk_drewN ?_ _ | refine blk_drew ?_ | refine blk_alloc ?_ _)); refine blk_put (cs := #[.string t154, .string (⟨#[]⟩ : ByteArray), .int .i64 0, .bool false]) ?_ 1 _ rfl; (with_reducible repeat (first | refine blk_drewN ?_ _ | refine blk_drew ?_ | refine blk_alloc ?_ _)); refine blk_put (cs := #[.string (⟨#[]⟩ : ByteArray), .string (⟨#[]⟩ : ByteArray), .int .i64 0, .bool false]) ?_ 0 _ rfl; (with_reducible repeat (first | refine blk_drewN ?_ _ | refine blk_drew ?_ | refine blk_alloc ?_ _)); exact BK159.out) hb); have n4_ := Aside0.mk (below_step (by repeat (first | (with_reducible first | exact HB.out | apply below_alloc | apply pw_below_drewN | apply below_drew1 | refine below_set ?_ GE142.out | refine below_set ?_ GE148.out | refine below_set ?_ GE153.out | refine below_set ?_ GE159.out) | exact HB.out)) hb); clear BK142; clear BK148; clear BK153; clear BK159; clear HB; have BK142 := n0_; have BK148 := n1_; have BK153 := n2_; have BK159 := n3_; have HB := n4_; clear n0_ n1_ n2_ n3_ n4_; (try clear hb); (try clear hb2); (try clear hk); (try clear hi)) | ((with_reducible refine gate_dst (N := 12) rfl ?_); (try (refine gate_guard (by rfl) ?_; dsimp only)); refine box_event ?hg (N := 12) ?hd (cs := #[.string (⟨#[]⟩ : ByteArray), .string (⟨#[]⟩ : ByteArray), .int .i64 0, .bool false]) (t := 60) ?hr ?_; (case hd => rfl); (case hg => rfl); (case hr => first | (go_simp; done) | (go_simp; rfl)); intro gb165 hg w41 hbox hb; have n0_ := Aside0.mk (blk_below (g := gb142) (o := .cells #[.string a0_0, .string a0_1, .int .i64 a0_2, .bool a0_3] 60 (0, 0)) (pB BK142.out) hb); have n1_ := Aside0.mk (blk_below (g := gb148) (o := .cells #[.string t144, .string t145, .int .i64 t146, .bool t147] 60 (0, 0)) (pB BK148.out) hb); have n2_ := Aside0.mk (blk_below (g := gb153) (o := .cells #[.string t149, .string t150, .int .i64 t151, .bool t152] 60 (0, 0)) (pB BK153.out) hb); have n3_ := Aside0.mk (blk_below (g := gb159) (o := .cells #[.string t154, .string t155, .int .i64 t156, .bool t157] 60 (0, 0)) (pB BK159.out) hb); have n4_ := Aside0.mk (below_step (by repeat (first | (with_reducible first | exact HB.out | apply below_alloc | apply pw_below_drewN | apply below_drew1 | refine below_set ?_ GE142.out | refine below_set ?_ GE148.out | refine below_set ?_ GE153.out | refine below_set ?_ GE159.out) | exact HB.out)) hb); have n5_ := Aside0.mk (hbox); have n6_ := Aside0.mk ((by rw [hg]; exact (below_size (by repeat (first | (with_reducible first | exact HB.out | apply below_alloc | apply pw_below_drewN | apply below_drew1 | refine below_set ?_ GE142.out | refine below_set ?_ GE148.out | refine below_set ?_ GE153.out | refine below_set ?_ GE159.out) | exact HB.out))) : w.heap.size ≤ gb165)); have n7_ := Aside0.mk ((by rw [hg]; exact (below_size (by repeat (first | (with_reducible first | exact HB.out | apply below_alloc | apply pw_below_drewN | apply below_drew1 | refine below_set ?_ GE142.out | refine below_set ?_ GE148.out | refine below_set ?_ GE153.out | refine below_set ?_ GE159.out) | exact HB.out))) : w.heap.size ≤ gb165)); have n8_ := Aside0.mk ((by rw [hg]; exact Nat.ne_of_lt (blk_lt (g := gb142) (o := .cells #[.string a0_0, .string a0_1, .int .i64 a0_2, .bool a0_3] 60 (0, 0)) (pB BK142.out)) : gb142 ≠ gb165)); have n9_ := Aside0.mk ((by rw [hg]; exact Nat.ne_of_gt (blk_lt (g := gb142) (o := .cells #[.string a0_0, .string a0_1, .int .i64 a0_2, .bool a0_3] 60 (0, 0)) (pB BK142.out)) : gb165 ≠ gb142)); have n10_ := Aside0.mk ((by rw [hg]; exact Nat.ne_of_lt (blk_lt (g := gb148) (o := .cells #[.string t144, .string t145, .int .i64 t146, .bool t147] 60 (0, 0)) (pB BK148.out)) : gb148 ≠ gb165)); have n11_ := Aside0.mk ((by rw [hg]; exact Nat.ne_of_gt (blk_lt (g := gb148) (o := .cells #[.string t144, .string t145, .int .i64 t146, .bool t147] 60 (0, 0)) (pB BK148.out)) : gb165 ≠ gb148)); have n12_ := Aside0.mk ((by rw [hg]; exact Nat.ne_of_lt (blk_lt (g := gb153) (o := .cells #[.string t149, .string t150, .int .i64 t151, .bool t152] 60 (0, 0)) (pB BK153.out)) : gb153 ≠ gb165)); have n13_ := Aside0.mk ((by rw [hg]; exact Nat.ne_of_gt (blk_lt (g := gb153) (o := .cells #[.string t149, .string t150, .int .i64 t151, .bool t152] 60 (0, 0)) (pB BK153.out)) : gb165 ≠ gb153)); have n14_ := Aside0.mk ((by rw [hg]; exact Nat.ne_of_lt (blk_lt (g := gb159) (o := .cells #[.string t154, .string t155, .int .i64 t156, .bool t157] 60 (0, 0)) (pB BK159.out)) : gb159 ≠ gb165)); have n15_ := Aside0.mk ((by rw [hg]; exact Nat.ne_of_gt (blk_lt (g := gb159) (o := .cells #[.string t154, .string t155, .int .i64 t156, .bool t157] 60 (0, 0)) (pB BK159.out)) : gb165 ≠ gb159)); clear BK142; clear BK148; clear BK153; clear BK159; clear HB; have BK142 := n0_; have BK148 := n1_; have BK153 := n2_; have BK159 := n3_; have HB := n4_; have BK165 := n5_; have GW165 := n6_; have GE165 := n7_; have NB142_165 := n8_; have NB165_142 := n9_; have NB148_165 := n10_; have NB165_148 := n11_; have NB153_165 := n12_; have NB165_153 := n13_; have NB159_165 := n14_; have NB165_159 := n15_; clear n0_ n1_ n2_ n3_ n4_ n5_ n6_ n7_ n8_ n9_ n10_ n11_ n12_ n13_ n14_ n15_; clear hb hbox hg; have hnb42 := NB165_142.out; have hnc42 := NB142_165.out; have hnb43 := NB165_148.out; have hnc43 := NB148_165.out; have hnb44 := NB165_153.out; have hnc44 := NB153_165.out; have hnb45 := NB165_159.out; have hnc45 := NB159_165.out; have hcz46_0 : w41.cell? ⟨gb165, 0, none⟩ = some (.string (⟨#[]⟩ : ByteArray)) := (blk_cell BK165.out 0).trans rfl; have hcz46_1 : w41.cell? ⟨gb165, 1, none⟩ = some (.string (⟨#[]⟩ : ByteArray)) := (blk_cell BK165.out 1).trans rfl; have hcz46_2 : w41.cell? ⟨gb165, 2, none⟩ = some (.int .i64 0) := (blk_cell BK165.out 2).trans rfl; have hcz46_3 : w41.cell? ⟨gb165, 3, none⟩ = some (.bool false) := (blk_cell BK165.out 3).trans rfl; have hfz46_0 := blk_frozen BK165.out 0; have hfz46_1 := blk_frozen BK165.out 1; have hfz46_2 := blk_frozen BK165.out 2; have hfz46_3 := blk_frozen BK165.out 3))
        have n0_ : Aside0 (((((w41.setCell ⟨gb165, 0, none⟩ (.string t160)).setCell ⟨gb165, 1, none⟩ (.string t161)).setCell ⟨gb165, 2, none⟩ (.int .i64 t162)).setCell ⟨gb165, 3, none⟩ (.bool t163)).heap[gb142]? = some (.cells #[.string a0_0, .string a0_1, .int .i64 a0_2, .bool a0_3] 60 (0, 0))) := ⟨by (with_reducible repeat (first | refine blk_drewN ?_ _ | refine blk_drew ?_ | refine blk_alloc ?_ _)); refine blk_far ?_ NB142_165.out _; (with_reducible repeat (first | refine blk_drewN ?_ _ | refine blk_drew ?_ | refine blk_alloc ?_ _)); refine blk_far ?_ NB142_165.out _; (with_reducible repeat (first | refine blk_drewN ?_ _ | refine blk_drew ?_ | refine blk_alloc ?_ _)); refine blk_far ?_ NB142_165.out _; (with_reducible repeat (first | refine blk_drewN ?_ _ | refine blk_drew ?_ | refine blk_alloc ?_ _)); refine blk_far ?_ NB142_165.out _; (with_reducible repeat (first | refine blk_drewN ?_ _ | refine blk_drew ?_ | refine blk_alloc ?_ _)); exact BK142.out⟩
        have n1_ : Aside0 (((((w41.setCell ⟨gb165, 0, none⟩ (.string t160)).setCell ⟨gb165, 1, none⟩ (.string t161)).setCell ⟨gb165, 2, none⟩ (.int .i64 t162)).setCell ⟨gb165, 3, none⟩ (.bool t163)).heap[gb148]? = some (.cells #[.string t144, .string t145, .int .i64 t146, .bool t147] 60 (0, 0))) := ⟨by (with_reducible repeat (first | refine blk_drewN ?_ _ | refine blk_drew ?_ | refine blk_alloc ?_ _)); refine blk_far ?_ NB148_165.out _; (with_reducible repeat (first | refine blk_drewN ?_ _ | refine blk_drew ?_ | refine blk_alloc ?_ _)); refine blk_far ?_ NB148_165.out _; (with_reducible repeat (first | refine blk_drewN ?_ _ | refine blk_drew ?_ | refine blk_alloc ?_ _)); refine blk_far ?_ NB148_165.out _; (with_reducible repeat (first | refine blk_drewN ?_ _ | refine blk_drew ?_ | refine blk_alloc ?_ _)); refine blk_far ?_ NB148_165.out _; (with_reducible repeat (first | refine blk_drewN ?_ _ | refine blk_drew ?_ | refine blk_alloc ?_ _)); exact BK148.out⟩
        have n2_ : Aside0 (((((w41.setCell ⟨gb165, 0, none⟩ (.string t160)).setCell ⟨gb165, 1, none⟩ (.string t161)).setCell ⟨gb165, 2, none⟩ (.int .i64 t162)).setCell ⟨gb165, 3, none⟩ (.bool t163)).heap[gb153]? = some (.cells #[.string t149, .string t150, .int .i64 t151, .bool t152] 60 (0, 0))) := ⟨by (with_reducible repeat (first | refine blk_drewN ?_ _ | refine blk_drew ?_ | refine blk_alloc ?_ _)); refine blk_far ?_ NB153_165.out _; (with_reducible repeat (first | refine blk_drewN ?_ _ | refine blk_drew ?_ | refine blk_alloc ?_ _)); refine blk_far ?_ NB153_165.out _; (with_reducible repeat (first | refine blk_drewN ?_ _ | refine blk_drew ?_ | refine blk_alloc ?_ _)); refine blk_far ?_ NB153_165.out _; (with_reducible repeat (first | refine blk_drewN ?_ _ | refine blk_drew ?_ | refine blk_alloc ?_ _)); refine blk_far ?_ NB153_165.out _; (with_reducible repeat (first | refine blk_drewN ?_ _ | refine blk_drew ?_ | refine blk_alloc ?_ _)); exact BK153.out⟩
        have n3_ : Aside0 (((((w41.setCell ⟨gb165, 0, none⟩ (.string t160)).setCell ⟨gb165, 1, none⟩ (.string t161)).setCell ⟨gb165, 2, none⟩ (.int .i64 t162)).setCell ⟨gb165, 3, none⟩ (.bool t163)).heap[gb159]? = some (.cells #[.string t154, .string t155, .int .i64 t156, .bool t157] 60 (0, 0))) := ⟨by (with_reducible repeat (first | refine blk_drewN ?_ _ | refine blk_drew ?_ | refine blk_alloc ?_ _)); refine blk_far ?_ NB159_165.out _; (with_reducible repeat (first | refine blk_drewN ?_ _ | refine blk_drew ?_ | refine blk_alloc ?_ _)); refine blk_far ?_ NB159_165.out _; (with_reducible repeat (first | refine blk_drewN ?_ _ | refine blk_drew ?_ | refine blk_alloc ?_ _)); refine blk_far ?_ NB159_165.out _; (with_reducible repeat (first | refine blk_drewN ?_ _ | refine blk_drew ?_ | refine blk_alloc ?_ _)); refine blk_far ?_ NB159_165.out _; (with_reducible repeat (first | refine blk_drewN ?_ _ | refine blk_drew ?_ | refine blk_alloc ?_ _)); exact BK159.out⟩
        have n4_ : Aside0 (((((w41.setCell ⟨gb165, 0, none⟩ (.string t160)).setCell ⟨gb165, 1, none⟩ (.string t161)).setCell ⟨gb165, 2, none⟩ (.int .i64 t162)).setCell ⟨gb165, 3, none⟩ (.bool t163)).heap[gb165]? = some (.cells #[.string t160, .string t161, .int .i64 t162, .bool t163] 60 (0, 0))) := ⟨by (with_reducible repeat (first | refine blk_drewN ?_ _ | refine blk_drew ?_ | refine blk_alloc ?_ _)); refine blk_put (cs := #[.string t160, .string t161, .int .i64 t162, .bool false]) ?_ 3 _ rfl; (with_reducible repeat (first | refine blk_drewN ?_ _ | refine blk_drew ?_ | refine blk_alloc ?_ _)); refine blk_put (cs := #[.string t160, .string t161, .int .i64 0, .bool false]) ?_ 2 _ rfl; (with_reducible repeat (first | refine blk_drewN ?_ _ | refine blk_drew ?_ | refine blk_alloc ?_ _)); refine blk_put (cs := #[.string t160, .string (⟨#[]⟩ : ByteArray), .int .i64 0, .bool false]) ?_ 1 _ rfl; (with_reducible repeat (first | refine blk_drewN ?_ _ | refine blk_drew ?_ | refine blk_alloc ?_ _)); refine blk_put (cs := #[.string (⟨#[]⟩ : ByteArray), .string (⟨#[]⟩ : ByteArray), .int .i64 0, .bool false]) ?_ 0 _ rfl; (with_reducible repeat (first | refine blk_drewN ?_ _ | refine blk_drew ?_ | refine blk_alloc ?_ _)); exact BK165.out⟩
        have n5_ : Aside0 (Below w.heap.size w ((((w41.setCell ⟨gb165, 0, none⟩ (.string t160)).setCell ⟨gb165, 1, none⟩ (.string t161)).setCell ⟨gb165, 2, none⟩ (.int .i64 t162)).setCell ⟨gb165, 3, none⟩ (.bool t163))) := ⟨by repeat (first | (with_reducible first | exact HB.out | apply below_alloc | apply pw_below_drewN | apply below_drew1 | refine below_set ?_ GE142.out | refine below_set ?_ GE148.out | refine below_set ?_ GE153.out | refine below_set ?_ GE159.out | refine below_set ?_ GE165.out) | exact HB.out)⟩
        (try clear BK142)
        (try clear BK148)
        (try clear BK153)
        (try clear BK159)
        (try clear BK165)
        (try clear HB)
        generalize ((((w41.setCell ⟨gb165, 0, none⟩ (.string t160)).setCell ⟨gb165, 1, none⟩ (.string t161)).setCell ⟨gb165, 2, none⟩ (.int .i64 t162)).setCell ⟨gb165, 3, none⟩ (.bool t163)) = w47 at n0_ n1_ n2_ n3_ n4_ n5_ ⊢
        have BK142 := n0_
        have BK148 := n1_
        have BK153 := n2_
        have BK159 := n3_
        have BK165 := n4_
        have HB := n5_
        clear n0_ n1_ n2_ n3_ n4_ n5_
        have n0_ := Aside0.mk (blk_drew BK142.out)
        have n1_ := Aside0.mk (blk_drew BK148.out)
        have n2_ := Aside0.mk (blk_drew BK153.out)
        have n3_ := Aside0.mk (blk_drew BK159.out)
        have n4_ := Aside0.mk (blk_drew BK165.out)
        have n5_ := Aside0.mk (below_drew1 HB.out)
        clear BK142
        clear BK148
        clear BK153
        clear BK159
        clear BK165
        clear HB
        have BK142 := n0_
        have BK148 := n1_
        have BK153 := n2_
        have BK159 := n3_
        have BK165 := n4_
        have HB := n5_
        clear n0_ n1_ n2_ n3_ n4_ n5_
        refine start_ (n := 6) (S := fun w' => w'.cell? ⟨gb142, 0, none⟩ = some (.string a0_0) ∧ w'.cell? ⟨gb142, 1, none⟩ = some (.string a0_1) ∧ w'.cell? ⟨gb142, 2, none⟩ = some (.int .i64 a0_2) ∧ w'.cell? ⟨gb142, 3, none⟩ = some (.bool a0_3) ∧ w'.cell? ⟨gb159, 0, none⟩ = some (.string t154) ∧ w'.cell? ⟨gb159, 1, none⟩ = some (.string t155) ∧ w'.cell? ⟨gb159, 2, none⟩ = some (.int .i64 t156) ∧ w'.cell? ⟨gb159, 3, none⟩ = some (.bool t157)) (ds := []) #[false, false, false, false, false, false] (by kernel_rfl) rfl rfl ⟨(blk_cell BK142.out 0).trans rfl, (blk_cell BK142.out 1).trans rfl, (blk_cell BK142.out 2).trans rfl, (blk_cell BK142.out 3).trans rfl, (blk_cell BK159.out 0).trans rfl, (blk_cell BK159.out 1).trans rfl, (blk_cell BK159.out 2).trans rfl, (blk_cell BK159.out 3).trans rfl⟩ (fun hHeld => ?_)
        generalize w47.drew = w48 at BK142 BK148 BK153 BK159 BK165 HB hHeld ⊢
        refine take_ (i := 0) (N := some 43) (v := ?_) (a' := ?_) #[true, false, false, false, false, false] rfl rfl (by kernel_rfl) (fun _ _ _ h => h) (Or.inl ⟨by rfl, ?_⟩) hHeld ?_ ?_
        rotate_left
        ·
         rintro w' ⟨s0, s1, s2, s3, s4, s5, s6, s7⟩
         go_simp
         with_reducible rfl
        rotate_left
        ·
         simp only [Act.put, List.setIfInBounds_toArray, List.set_cons_zero, List.set_cons_succ, i64_w, i32_w]
         rfl
        refine take_ (i := 2) (N := some 45) (v := ?_) (a' := ?_) #[true, false, true, false, false, false] rfl rfl (by kernel_rfl) (fun _ _ _ h => h) (Or.inl ⟨by rfl, ?_⟩) hHeld ?_ ?_
        rotate_left
        ·
         rintro w' ⟨s0, s1, s2, s3, s4, s5, s6, s7⟩
         go_simp
         with_reducible rfl
        rotate_left
        ·
         simp only [Act.put, List.setIfInBounds_toArray, List.set_cons_zero, List.set_cons_succ, i64_w, i32_w]
         rfl
        refine one_ (i := 1) (N := some 44) #[true, true, true, false, false, false] rfl rfl (by kernel_rfl) (by decide) (fun K hK => ?_)
        refine goes_ Try.func40 (by kernel_rfl) rfl #[.agg #[.string a0_0, .string a0_1, .int .i64 a0_2, .bool a0_3]] (by rfl) rfl rfl (by (try simp only [List.map_toArray, List.map_cons, List.map_nil]); first | done | rfl | (simp only [List.length_drop, List.length_take]; rfl)) ?_
        with_reducible refine (paper_Records.calls kj4 a0_0 a0_1 a0_2 a0_3 t166 _ A16.out).mono ?_
        rintro e w49 ⟨v167, rfl, ho0, hb⟩
        refine ⟨_, rfl, ?_⟩
        have n0_ := Aside0.mk (Kd.R_lower ho0 (below_size (by repeat (first | (with_reducible first | exact HB.out | apply below_alloc | apply pw_below_drewN | apply below_drew1 | refine below_set ?_ GE142.out | refine below_set ?_ GE148.out | refine below_set ?_ GE153.out | refine below_set ?_ GE159.out | refine below_set ?_ GE165.out) | exact HB.out))))
        have n1_ := Aside0.mk (blk_below (g := gb142) (o := .cells #[.string a0_0, .string a0_1, .int .i64 a0_2, .bool a0_3] 60 (0, 0)) (pB BK142.out) hb)
        have n2_ := Aside0.mk (blk_below (g := gb148) (o := .cells #[.string t144, .string t145, .int .i64 t146, .bool t147] 60 (0, 0)) (pB BK148.out) hb)
        have n3_ := Aside0.mk (blk_below (g := gb153) (o := .cells #[.string t149, .string t150, .int .i64 t151, .bool t152] 60 (0, 0)) (pB BK153.out) hb)
        have n4_ := Aside0.mk (blk_below (g := gb159) (o := .cells #[.string t154, .string t155, .int .i64 t156, .bool t157] 60 (0, 0)) (pB BK159.out) hb)
        have n5_ := Aside0.mk (blk_below (g := gb165) (o := .cells #[.string t160, .string t161, .int .i64 t162, .bool t163] 60 (0, 0)) (pB BK165.out) hb)
        have n6_ := Aside0.mk (below_step (by repeat (first | (with_reducible first | exact HB.out | apply below_alloc | apply pw_below_drewN | apply below_drew1 | refine below_set ?_ GE142.out | refine below_set ?_ GE148.out | refine below_set ?_ GE153.out | refine below_set ?_ GE159.out | refine below_set ?_ GE165.out) | exact HB.out)) hb)
        clear BK142
        clear BK148
        clear BK153
        clear BK159
        clear BK165
        clear HB
        have HO168 := n0_
        have BK142 := n1_
        have BK148 := n2_
        have BK153 := n3_
        have BK159 := n4_
        have BK165 := n5_
        have HB := n6_
        clear n0_ n1_ n2_ n3_ n4_ n5_ n6_
        (try clear hb)
        (try clear hb2)
        (try clear hk)
        (try clear hi)
        (try clear ho0)
        refine hK.out _ _ ⟨(blk_cell BK142.out 0).trans rfl, (blk_cell BK142.out 1).trans rfl, (blk_cell BK142.out 2).trans rfl, (blk_cell BK142.out 3).trans rfl, (blk_cell BK159.out 0).trans rfl, (blk_cell BK159.out 1).trans rfl, (blk_cell BK159.out 2).trans rfl, (blk_cell BK159.out 3).trans rfl⟩ (fun hHeld => ?_)
        clear hK K
        refine norm_ (a' := ?_) ?_ ?_
        rotate_left
        ·
         show Act.put _ (some 44) _ = _
         simp only [Act.put, List.setIfInBounds_toArray, List.set_cons_zero, List.set_cons_succ, i64_w, i32_w]
         rfl
        refine one_ (i := 3) (N := some 46) #[true, true, true, true, false, false] rfl rfl (by kernel_rfl) (by decide) (fun K hK => ?_)
        refine goes_ Try.func40 (by kernel_rfl) rfl #[.agg #[.string t154, .string t155, .int .i64 t156, .bool t157]] (by rfl) rfl rfl (by (try simp only [List.map_toArray, List.map_cons, List.map_nil]); first | done | rfl | (simp only [List.length_drop, List.length_take]; rfl)) ?_
        with_reducible refine (paper_Records.calls kj4 t154 t155 t156 t157 t169 _ A17.out).mono ?_
        rintro e w50 ⟨v170, rfl, ho0, hb⟩
        refine ⟨_, rfl, ?_⟩
        have n0_ := Aside0.mk (Kd.R_elder' (Kd.pR HO168.out) (Kd.R_base ho0) hb)
        have n1_ := Aside0.mk (Kd.R_lower (Kd.R_new' ho0 (Kd.R_lt (Kd.pR HO168.out))) (below_size (by repeat (first | (with_reducible first | exact HB.out | apply below_alloc | apply pw_below_drewN | apply below_drew1 | refine below_set ?_ GE142.out | refine below_set ?_ GE148.out | refine below_set ?_ GE153.out | refine below_set ?_ GE159.out | refine below_set ?_ GE165.out) | exact HB.out))))
        have n2_ := Aside0.mk (blk_below (g := gb142) (o := .cells #[.string a0_0, .string a0_1, .int .i64 a0_2, .bool a0_3] 60 (0, 0)) (pB BK142.out) hb)
        have n3_ := Aside0.mk (blk_below (g := gb148) (o := .cells #[.string t144, .string t145, .int .i64 t146, .bool t147] 60 (0, 0)) (pB BK148.out) hb)
        have n4_ := Aside0.mk (blk_below (g := gb153) (o := .cells #[.string t149, .string t150, .int .i64 t151, .bool t152] 60 (0, 0)) (pB BK153.out) hb)
        have n5_ := Aside0.mk (blk_below (g := gb159) (o := .cells #[.string t154, .string t155, .int .i64 t156, .bool t157] 60 (0, 0)) (pB BK159.out) hb)
        have n6_ := Aside0.mk (blk_below (g := gb165) (o := .cells #[.string t160, .string t161, .int .i64 t162, .bool t163] 60 (0, 0)) (pB BK165.out) hb)
        have n7_ := Aside0.mk (below_step (by repeat (first | (with_reducible first | exact HB.out | apply below_alloc | apply pw_below_drewN | apply below_drew1 | refine below_set ?_ GE142.out | refine below_set ?_ GE148.out | refine below_set ?_ GE153.out | refine below_set ?_ GE159.out | refine below_set ?_ GE165.out) | exact HB.out)) hb)
        clear HO168
        clear BK142
        clear BK148
        clear BK153
        clear BK159
        clear BK165
        clear HB
        have HO168 := n0_
        have HO171 := n1_
        have BK142 := n2_
        have BK148 := n3_
        have BK153 := n4_
        have BK159 := n5_
        have BK165 := n6_
        have HB := n7_
        clear n0_ n1_ n2_ n3_ n4_ n5_ n6_ n7_
        (try clear hb)
        (try clear hb2)
        (try clear hk)
        (try clear hi)
        (try clear ho0)
        obtain ⟨Ao51, co51, eo51⟩ := Kd.R_slice HO168.out
        (first | subst eo51 | (injection eo51 with f1_ f2_ f3_; have f4_ := f1_.symm; have f5_ := f3_.symm; clear f1_ f2_ f3_; subst f4_; subst f5_))
        obtain ⟨Ao52, co52, eo52⟩ := Kd.R_slice HO171.out
        (first | subst eo52 | (injection eo52 with f1_ f2_ f3_; have f4_ := f1_.symm; have f5_ := f3_.symm; clear f1_ f2_ f3_; subst f4_; subst f5_))
        refine hK.out _ _ ⟨(blk_cell BK142.out 0).trans rfl, (blk_cell BK142.out 1).trans rfl, (blk_cell BK142.out 2).trans rfl, (blk_cell BK142.out 3).trans rfl, (blk_cell BK159.out 0).trans rfl, (blk_cell BK159.out 1).trans rfl, (blk_cell BK159.out 2).trans rfl, (blk_cell BK159.out 3).trans rfl⟩ (fun hHeld => ?_)
        clear hK K
        refine norm_ (a' := ?_) ?_ ?_
        rotate_left
        ·
         show Act.put _ (some 46) _ = _
         simp only [Act.put, List.setIfInBounds_toArray, List.set_cons_zero, List.set_cons_succ, i64_w, i32_w]
         rfl
        refine one_ (i := 4) (N := some 47) #[true, true, true, true, true, false] rfl rfl (by kernel_rfl) (by decide) (fun K hK => ?_)
        refine goes_ Try.func28 (by kernel_rfl) rfl #[.slice Ao51 t166.length co51, .slice Ao52 t169.length co52] (by rfl) rfl rfl (by (try simp only [List.map_toArray, List.map_cons, List.map_nil]); first | done | rfl | (simp only [List.length_drop, List.length_take]; rfl)) ?_
        with_reducible refine (selvedgeref01_Same.calls kj4 _ _ t166 _ _ t169 t172 _ ?side1 ?side2 ?side3 ?side4 A18.out).mono ?_
        (case side1 => repeat (first | exact (Kd.R_reads' HO168.out).2.2 | (with_reducible refine Kd.C_alloc ?_ _) | (with_reducible refine Kd.C_drewN ?_ _) | (with_reducible refine Kd.C_drew ?_)))
        (case side2 => exact (Kd.R_reads' HO168.out).2.1)
        (case side3 => repeat (first | exact (Kd.R_reads' HO171.out).2.2 | (with_reducible refine Kd.C_alloc ?_ _) | (with_reducible refine Kd.C_drewN ?_ _) | (with_reducible refine Kd.C_drew ?_)))
        (case side4 => exact (Kd.R_reads' HO171.out).2.1)
        rintro e w' ⟨rfl, ⟨nd, rfl⟩⟩
        refine ⟨_, rfl, ?_⟩
        refine hK.out _ _ ⟨(blk_cell BK142.out 0).trans rfl, (blk_cell BK142.out 1).trans rfl, (blk_cell BK142.out 2).trans rfl, (blk_cell BK142.out 3).trans rfl, (blk_cell BK159.out 0).trans rfl, (blk_cell BK159.out 1).trans rfl, (blk_cell BK159.out 2).trans rfl, (blk_cell BK159.out 3).trans rfl⟩ (fun hHeld => ?_)
        clear hK K
        refine norm_ (a' := ?_) ?_ ?_
        rotate_left
        ·
         show Act.put _ (some 47) _ = _
         simp only [Act.put, List.setIfInBounds_toArray, List.set_cons_zero, List.set_cons_succ, i64_w, i32_w]
         rfl
        refine pure_ (i := 5) (N := some 14) (v := ?_) (a' := ?_) #[true, true, true, true, true, true] rfl rfl (by kernel_rfl) (fun _ _ _ h => h) (Or.inl ⟨by rfl, ?_⟩) ?_ ?_
        rotate_left
        ·
         intro w'
         go_simp
         with_reducible rfl
        rotate_left
        ·
         simp only [Act.put, List.setIfInBounds_toArray, List.set_cons_zero, List.set_cons_succ, i64_w, i32_w]
         rfl
        refine done_ (by kernel_rfl) ?_
        have hcz53_0 : w50.cell? ⟨gb148, 0, none⟩ = some (.string t144) := (blk_cell BK148.out 0).trans rfl
        have hcz53_1 : w50.cell? ⟨gb148, 1, none⟩ = some (.string t145) := (blk_cell BK148.out 1).trans rfl
        have hcz53_2 : w50.cell? ⟨gb148, 2, none⟩ = some (.int .i64 t146) := (blk_cell BK148.out 2).trans rfl
        have hcz53_3 : w50.cell? ⟨gb148, 3, none⟩ = some (.bool t147) := (blk_cell BK148.out 3).trans rfl
        have hfz53_0 := blk_frozen BK148.out 0
        have hfz53_1 := blk_frozen BK148.out 1
        have hfz53_2 := blk_frozen BK148.out 2
        have hfz53_3 := blk_frozen BK148.out 3
        have hcz54_0 : w50.cell? ⟨gb153, 0, none⟩ = some (.string t149) := (blk_cell BK153.out 0).trans rfl
        have hcz54_1 : w50.cell? ⟨gb153, 1, none⟩ = some (.string t150) := (blk_cell BK153.out 1).trans rfl
        have hcz54_2 : w50.cell? ⟨gb153, 2, none⟩ = some (.int .i64 t151) := (blk_cell BK153.out 2).trans rfl
        have hcz54_3 : w50.cell? ⟨gb153, 3, none⟩ = some (.bool t152) := (blk_cell BK153.out 3).trans rfl
        have hfz54_0 := blk_frozen BK153.out 0
        have hfz54_1 := blk_frozen BK153.out 1
        have hfz54_2 := blk_frozen BK153.out 2
        have hfz54_3 := blk_frozen BK153.out 3
        have hcz55_0 : w50.cell? ⟨gb159, 0, none⟩ = some (.string t154) := (blk_cell BK159.out 0).trans rfl
        have hcz55_1 : w50.cell? ⟨gb159, 1, none⟩ = some (.string t155) := (blk_cell BK159.out 1).trans rfl
        have hcz55_2 : w50.cell? ⟨gb159, 2, none⟩ = some (.int .i64 t156) := (blk_cell BK159.out 2).trans rfl
        have hcz55_3 : w50.cell? ⟨gb159, 3, none⟩ = some (.bool t157) := (blk_cell BK159.out 3).trans rfl
        have hfz55_0 := blk_frozen BK159.out 0
        have hfz55_1 := blk_frozen BK159.out 1
        have hfz55_2 := blk_frozen BK159.out 2
        have hfz55_3 := blk_frozen BK159.out 3
        have hcz56_0 : w50.cell? ⟨gb165, 0, none⟩ = some (.string t160) := (blk_cell BK165.out 0).trans rfl
        have hcz56_1 : w50.cell? ⟨gb165, 1, none⟩ = some (.string t161) := (blk_cell BK165.out 1).trans rfl
        have hcz56_2 : w50.cell? ⟨gb165, 2, none⟩ = some (.int .i64 t162) := (blk_cell BK165.out 2).trans rfl
        have hcz56_3 : w50.cell? ⟨gb165, 3, none⟩ = some (.bool t163) := (blk_cell BK165.out 3).trans rfl
        have hfz56_0 := blk_frozen BK165.out 0
        have hfz56_1 := blk_frozen BK165.out 1
        have hfz56_2 := blk_frozen BK165.out 2
        have hfz56_3 := blk_frozen BK165.out 3
        try go_wp2
        go_ret
        exact ⟨by first | rfl | (simp [errW_none, errW_some] <;> rfl) | (simp [*, errW_none, errW_some] <;> rfl), by repeat (first | (with_reducible first | exact HB.out | apply below_alloc | apply pw_below_drewN | apply below_drew1 | refine below_set ?_ GE142.out | refine below_set ?_ GE148.out | refine below_set ?_ GE153.out | refine below_set ?_ GE159.out | refine below_set ?_ GE165.out) | exact HB.out)⟩
       ·
        rw [if_neg c22] at H
        have c22b0 : (t154.toList == t160.toList && (t155.toList == t161.toList && (t156 == t162 && (t157 == t163)))) = false := by simpa using c22
        (try (have c22b1 : decide (t154.toList = t160.toList && (t155.toList == t161.toList && (t156 == t162 && (t157 == t163)))) = false := by simpa using c22))
        (try (have c22b2 : (t154.toList == t160.toList && (t155.toList == t161.toList && (t156 == t162 && (t157 == t163)))) = false := by simpa using c22))
        (try (have c22b3 : ¬ (t154.toList = t160.toList && (t155.toList == t161.toList && (t156 == t162 && (t157 == t163)))) := by simpa using c22))
        clear c22
        obtain rfl := Option.some.inj H
        have hcz57_0 : wc.cell? ⟨gb142, 0, none⟩ = some (.string a0_0) := (blk_cell BK142.out 0).trans rfl
        have hcz57_1 : wc.cell? ⟨gb142, 1, none⟩ = some (.string a0_1) := (blk_cell BK142.out 1).trans rfl
        have hcz57_2 : wc.cell? ⟨gb142, 2, none⟩ = some (.int .i64 a0_2) := (blk_cell BK142.out 2).trans rfl
        have hcz57_3 : wc.cell? ⟨gb142, 3, none⟩ = some (.bool a0_3) := (blk_cell BK142.out 3).trans rfl
        have hfz57_0 := blk_frozen BK142.out 0
        have hfz57_1 := blk_frozen BK142.out 1
        have hfz57_2 := blk_frozen BK142.out 2
        have hfz57_3 := blk_frozen BK142.out 3
        try go_wp2_with (first | ((with_reducible refine gate_callee (f := 39) rfl ?_); refine goesL_ (some 29) rfl rfl Try.func39 (by kernel_rfl) rfl #[.agg #[.string a0_0, .string a0_1, .int .i64 a0_2, .bool a0_3], .int .i64 a1] rfl (by (try simp only [List.map_toArray, List.map_cons, List.map_nil]); first | done | rfl | (simp only [List.length_drop, List.length_take]; rfl)) ?_; (with_reducible refine (paper_Crash.calls kj4 a0_0 a0_1 a0_2 a0_3 a1 t144 t145 t146 t147 _ A12.out).mono ?_); rintro e w58 ⟨rfl, hb⟩; refine ⟨_, rfl, ?_⟩; have n0_ := Aside0.mk (blk_below (g := gb142) (o := .cells #[.string a0_0, .string a0_1, .int .i64 a0_2, .bool a0_3] 60 (0, 0)) (pB BK142.out) hb); have n1_ := Aside0.mk (below_step (by repeat (first | (with_reducible first | exact HB.out | apply below_alloc | apply pw_below_drewN | apply below_drew1 | refine below_set ?_ GE142.out) | exact HB.out)) hb); clear BK142; clear HB; have BK142 := n0_; have HB := n1_; clear n0_ n1_; (try clear hb); (try clear hb2); (try clear hk); (try clear hi)) | ((with_reducible refine gate_dst (N := 8) rfl ?_); (try (refine gate_guard (by rfl) ?_; dsimp only)); refine box_event ?hg (N := 8) ?hd (cs := #[.string (⟨#[]⟩ : ByteArray), .string (⟨#[]⟩ : ByteArray), .int .i64 0, .bool false]) (t := 60) ?hr ?_; (case hd => rfl); (case hg => rfl); (case hr => first | (go_simp; done) | (go_simp; rfl)); intro gb148 hg w59 hbox hb; have n0_ := Aside0.mk (blk_below (g := gb142) (o := .cells #[.string a0_0, .string a0_1, .int .i64 a0_2, .bool a0_3] 60 (0, 0)) (pB BK142.out) hb); have n1_ := Aside0.mk (below_step (by repeat (first | (with_reducible first | exact HB.out | apply below_alloc | apply pw_below_drewN | apply below_drew1 | refine below_set ?_ GE142.out) | exact HB.out)) hb); have n2_ := Aside0.mk (hbox); have n3_ := Aside0.mk ((by rw [hg]; exact (below_size (by repeat (first | (with_reducible first | exact HB.out | apply below_alloc | apply pw_below_drewN | apply below_drew1 | refine below_set ?_ GE142.out) | exact HB.out))) : w.heap.size ≤ gb148)); have n4_ := Aside0.mk ((by rw [hg]; exact (below_size (by repeat (first | (with_reducible first | exact HB.out | apply below_alloc | apply pw_below_drewN | apply below_drew1 | refine below_set ?_ GE142.out) | exact HB.out))) : w.heap.size ≤ gb148)); have n5_ := Aside0.mk ((by rw [hg]; exact Nat.ne_of_lt (blk_lt (g := gb142) (o := .cells #[.string a0_0, .string a0_1, .int .i64 a0_2, .bool a0_3] 60 (0, 0)) (pB BK142.out)) : gb142 ≠ gb148)); have n6_ := Aside0.mk ((by rw [hg]; exact Nat.ne_of_gt (blk_lt (g := gb142) (o := .cells #[.string a0_0, .string a0_1, .int .i64 a0_2, .bool a0_3] 60 (0, 0)) (pB BK142.out)) : gb148 ≠ gb142)); clear BK142; clear HB; have BK142 := n0_; have HB := n1_; have BK148 := n2_; have GW148 := n3_; have GE148 := n4_; have NB142_148 := n5_; have NB148_142 := n6_; clear n0_ n1_ n2_ n3_ n4_ n5_ n6_; clear hb hbox hg; have hnb60 := NB148_142.out; have hnc60 := NB142_148.out; have hcz61_0 : w59.cell? ⟨gb148, 0, none⟩ = some (.string (⟨#[]⟩ : ByteArray)) := (blk_cell BK148.out 0).trans rfl; have hcz61_1 : w59.cell? ⟨gb148, 1, none⟩ = some (.string (⟨#[]⟩ : ByteArray)) := (blk_cell BK148.out 1).trans rfl; have hcz61_2 : w59.cell? ⟨gb148, 2, none⟩ = some (.int .i64 0) := (blk_cell BK148.out 2).trans rfl; have hcz61_3 : w59.cell? ⟨gb148, 3, none⟩ = some (.bool false) := (blk_cell BK148.out 3).trans rfl; have hfz61_0 := blk_frozen BK148.out 0; have hfz61_1 := blk_frozen BK148.out 1; have hfz61_2 := blk_frozen BK148.out 2; have hfz61_3 := blk_frozen BK148.out 3) | ((with_reducible refine gate_callee (f := 39) rfl ?_); refine goesL_ (some 32) rfl rfl Try.func39 (by kernel_rfl) rfl #[.agg #[.string t144, .string t145, .int .i64 t146, .bool t147], .int .i64 a2] rfl (by (try simp only [List.map_toArray, List.map_cons, List.map_nil]); first | done | rfl | (simp only [List.length_drop, List.length_take]; rfl)) ?_; (with_reducible refine (paper_Crash.calls kj4 t144 t145 t146 t147 a2 t149 t150 t151 t152 _ A13.out).mono ?_); rintro e w62 ⟨rfl, hb⟩; refine ⟨_, rfl, ?_⟩; have n0_ := Aside0.mk (blk_below (g := gb142) (o := .cells #[.string a0_0, .string a0_1, .int .i64 a0_2, .bool a0_3] 60 (0, 0)) (by (with_reducible repeat (first | refine blk_drewN ?_ _ | refine blk_drew ?_ | refine blk_alloc ?_ _)); refine blk_far ?_ NB142_148.out _; (with_reducible repeat (first | refine blk_drewN ?_ _ | refine blk_drew ?_ | refine blk_alloc ?_ _)); refine blk_far ?_ NB142_148.out _; (with_reducible repeat (first | refine blk_drewN ?_ _ | refine blk_drew ?_ | refine blk_alloc ?_ _)); refine blk_far ?_ NB142_148.out _; (with_reducible repeat (first | refine blk_drewN ?_ _ | refine blk_drew ?_ | refine blk_alloc ?_ _)); refine blk_far ?_ NB142_148.out _; (with_reducible repeat (first | refine blk_drewN ?_ _ | refine blk_drew ?_ | refine blk_alloc ?_ _)); exact BK142.out) hb); have n1_ := Aside0.mk (blk_below (g := gb148) (o := .cells #[.string t144, .string t145, .int .i64 t146, .bool t147] 60 (0, 0)) (by (with_reducible repeat (first | refine blk_drewN ?_ _ | refine blk_drew ?_ | refine blk_alloc ?_ _)); refine blk_put (cs := #[.string t144, .string t145, .int .i64 t146, .bool false]) ?_ 3 _ rfl; (with_reducible repeat (first | refine blk_drewN ?_ _ | refine blk_drew ?_ | refine blk_alloc ?_ _)); refine blk_put (cs := #[.string t144, .string t145, .int .i64 0, .bool false]) ?_ 2 _ rfl; (with_reducible repeat (first | refine blk_drewN ?_ _ | refine blk_drew ?_ | refine blk_alloc ?_ _)); refine blk_put (cs := #[.string t144, .string (⟨#[]⟩ : ByteArray), .int .i64 0, .bool false]) ?_ 1 _ rfl; (with_reducible repeat (first | refine blk_drewN ?_ _ | refine blk_drew ?_ | refine blk_alloc ?_ _)); refine blk_put (cs := #[.string (⟨#[]⟩ : ByteArray), .string (⟨#[]⟩ : ByteArray), .int .i64 0, .bool false]) ?_ 0 _ rfl; (with_reducible repeat (first | refine blk_drewN ?_ _ | refine blk_drew ?_ | refine blk_alloc ?_ _)); exact BK148.out) hb); have n2_ := Aside0.mk (below_step (by repeat (first | (with_reducible first | exact HB.out | apply below_alloc | apply pw_below_drewN | apply below_drew1 | refine below_set ?_ GE142.out | refine below_set ?_ GE148.out) | exact HB.out)) hb); clear BK142; clear BK148; clear HB; have BK142 := n0_; have BK148 := n1_; have HB := n2_; clear n0_ n1_ n2_; (try clear hb); (try clear hb2); (try clear hk); (try clear hi)) | ((with_reducible refine gate_dst (N := 9) rfl ?_); (try (refine gate_guard (by rfl) ?_; dsimp only)); refine box_event ?hg (N := 9) ?hd (cs := #[.string (⟨#[]⟩ : ByteArray), .string (⟨#[]⟩ : ByteArray), .int .i64 0, .bool false]) (t := 60) ?hr ?_; (case hd => rfl); (case hg => rfl); (case hr => first | (go_simp; done) | (go_simp; rfl)); intro gb153 hg w63 hbox hb; have n0_ := Aside0.mk (blk_below (g := gb142) (o := .cells #[.string a0_0, .string a0_1, .int .i64 a0_2, .bool a0_3] 60 (0, 0)) (pB BK142.out) hb); have n1_ := Aside0.mk (blk_below (g := gb148) (o := .cells #[.string t144, .string t145, .int .i64 t146, .bool t147] 60 (0, 0)) (pB BK148.out) hb); have n2_ := Aside0.mk (below_step (by repeat (first | (with_reducible first | exact HB.out | apply below_alloc | apply pw_below_drewN | apply below_drew1 | refine below_set ?_ GE142.out | refine below_set ?_ GE148.out) | exact HB.out)) hb); have n3_ := Aside0.mk (hbox); have n4_ := Aside0.mk ((by rw [hg]; exact (below_size (by repeat (first | (with_reducible first | exact HB.out | apply below_alloc | apply pw_below_drewN | apply below_drew1 | refine below_set ?_ GE142.out | refine below_set ?_ GE148.out) | exact HB.out))) : w.heap.size ≤ gb153)); have n5_ := Aside0.mk ((by rw [hg]; exact (below_size (by repeat (first | (with_reducible first | exact HB.out | apply below_alloc | apply pw_below_drewN | apply below_drew1 | refine below_set ?_ GE142.out | refine below_set ?_ GE148.out) | exact HB.out))) : w.heap.size ≤ gb153)); have n6_ := Aside0.mk ((by rw [hg]; exact Nat.ne_of_lt (blk_lt (g := gb142) (o := .cells #[.string a0_0, .string a0_1, .int .i64 a0_2, .bool a0_3] 60 (0, 0)) (pB BK142.out)) : gb142 ≠ gb153)); have n7_ := Aside0.mk ((by rw [hg]; exact Nat.ne_of_gt (blk_lt (g := gb142) (o := .cells #[.string a0_0, .string a0_1, .int .i64 a0_2, .bool a0_3] 60 (0, 0)) (pB BK142.out)) : gb153 ≠ gb142)); have n8_ := Aside0.mk ((by rw [hg]; exact Nat.ne_of_lt (blk_lt (g := gb148) (o := .cells #[.string t144, .string t145, .int .i64 t146, .bool t147] 60 (0, 0)) (pB BK148.out)) : gb148 ≠ gb153)); have n9_ := Aside0.mk ((by rw [hg]; exact Nat.ne_of_gt (blk_lt (g := gb148) (o := .cells #[.string t144, .string t145, .int .i64 t146, .bool t147] 60 (0, 0)) (pB BK148.out)) : gb153 ≠ gb148)); clear BK142; clear BK148; clear HB; have BK142 := n0_; have BK148 := n1_; have HB := n2_; have BK153 := n3_; have GW153 := n4_; have GE153 := n5_; have NB142_153 := n6_; have NB153_142 := n7_; have NB148_153 := n8_; have NB153_148 := n9_; clear n0_ n1_ n2_ n3_ n4_ n5_ n6_ n7_ n8_ n9_; clear hb hbox hg; have hnb64 := NB153_142.out; have hnc64 := NB142_153.out; have hnb65 := NB153_148.out; have hnc65 := NB148_153.out; have hcz66_0 : w63.cell? ⟨gb153, 0, none⟩ = some (.string (⟨#[]⟩ : ByteArray)) := (blk_cell BK153.out 0).trans rfl; have hcz66_1 : w63.cell? ⟨gb153, 1, none⟩ = some (.string (⟨#[]⟩ : ByteArray)) := (blk_cell BK153.out 1).trans rfl; have hcz66_2 : w63.cell? ⟨gb153, 2, none⟩ = some (.int .i64 0) := (blk_cell BK153.out 2).trans rfl; have hcz66_3 : w63.cell? ⟨gb153, 3, none⟩ = some (.bool false) := (blk_cell BK153.out 3).trans rfl; have hfz66_0 := blk_frozen BK153.out 0; have hfz66_1 := blk_frozen BK153.out 1; have hfz66_2 := blk_frozen BK153.out 2; have hfz66_3 := blk_frozen BK153.out 3; have hcz67_0 : w63.cell? ⟨gb142, 0, none⟩ = some (.string a0_0) := (blk_cell BK142.out 0).trans rfl; have hcz67_1 : w63.cell? ⟨gb142, 1, none⟩ = some (.string a0_1) := (blk_cell BK142.out 1).trans rfl; have hcz67_2 : w63.cell? ⟨gb142, 2, none⟩ = some (.int .i64 a0_2) := (blk_cell BK142.out 2).trans rfl; have hcz67_3 : w63.cell? ⟨gb142, 3, none⟩ = some (.bool a0_3) := (blk_cell BK142.out 3).trans rfl; have hfz67_0 := blk_frozen BK142.out 0; have hfz67_1 := blk_frozen BK142.out 1; have hfz67_2 := blk_frozen BK142.out 2; have hfz67_3 := blk_frozen BK142.out 3) | ((with_reducible refine gate_callee (f := 38) rfl ?_); refine goesL_ (some 35) rfl rfl Try.func38 (by kernel_rfl) rfl #[.agg #[.string a0_0, .string a0_1, .int .i64 a0_2, .bool a0_3]] rfl (by (try simp only [List.map_toArray, List.map_cons, List.map_nil]); first | done | rfl | (simp only [List.length_drop, List.length_take]; rfl)) ?_; (with_reducible refine (paper_Sync.calls a0_0 a0_1 a0_2 a0_3 t154 t155 t156 t157 t158 _ A14.out).mono ?_); rintro e w68 ⟨rfl, hb⟩; refine ⟨_, rfl, ?_⟩; have n0_ := Aside0.mk (blk_below (g := gb142) (o := .cells #[.string a0_0, .string a0_1, .int .i64 a0_2, .bool a0_3] 60 (0, 0)) (by (with_reducible repeat (first | refine blk_drewN ?_ _ | refine blk_drew ?_ | refine blk_alloc ?_ _)); refine blk_far ?_ NB142_153.out _; (with_reducible repeat (first | refine blk_drewN ?_ _ | refine blk_drew ?_ | refine blk_alloc ?_ _)); refine blk_far ?_ NB142_153.out _; (with_reducible repeat (first | refine blk_drewN ?_ _ | refine blk_drew ?_ | refine blk_alloc ?_ _)); refine blk_far ?_ NB142_153.out _; (with_reducible repeat (first | refine blk_drewN ?_ _ | refine blk_drew ?_ | refine blk_alloc ?_ _)); refine blk_far ?_ NB142_153.out _; (with_reducible repeat (first | refine blk_drewN ?_ _ | refine blk_drew ?_ | refine blk_alloc ?_ _)); exact BK142.out) hb); have n1_ := Aside0.mk (blk_below (g := gb148) (o := .cells #[.string t144, .string t145, .int .i64 t146, .bool t147] 60 (0, 0)) (by (with_reducible repeat (first | refine blk_drewN ?_ _ | refine blk_drew ?_ | refine blk_alloc ?_ _)); refine blk_far ?_ NB148_153.out _; (with_reducible repeat (first | refine blk_drewN ?_ _ | refine blk_drew ?_ | refine blk_alloc ?_ _)); refine blk_far ?_ NB148_153.out _; (with_reducible repeat (first | refine blk_drewN ?_ _ | refine blk_drew ?_ | refine blk_alloc ?_ _)); refine blk_far ?_ NB148_153.out _; (with_reducible repeat (first | refine blk_drewN ?_ _ | refine blk_drew ?_ | refine blk_alloc ?_ _)); refine blk_far ?_ NB148_153.out _; (with_reducible repeat (first | refine blk_drewN ?_ _ | refine blk_drew ?_ | refine blk_alloc ?_ _)); exact BK148.out) hb); have n2_ := Aside0.mk (blk_below (g := gb153) (o := .cells #[.string t149, .string t150, .int .i64 t151, .bool t152] 60 (0, 0)) (by (with_reducible repeat (first | refine blk_drewN ?_ _ | refine blk_drew ?_ | refine blk_alloc ?_ _)); refine blk_put (cs := #[.string t149, .string t150, .int .i64 t151, .bool false]) ?_ 3 _ rfl; (with_reducible repeat (first | refine blk_drewN ?_ _ | refine blk_drew ?_ | refine blk_alloc ?_ _)); refine blk_put (cs := #[.string t149, .string t150, .int .i64 0, .bool false]) ?_ 2 _ rfl; (with_reducible repeat (first | refine blk_drewN ?_ _ | refine blk_drew ?_ | refine blk_alloc ?_ _)); refine blk_put (cs := #[.string t149, .string (⟨#[]⟩ : ByteArray), .int .i64 0, .bool false]) ?_ 1 _ rfl; (with_reducible repeat (first | refine blk_drewN ?_ _ | refine blk_drew ?_ | refine blk_alloc ?_ _)); refine blk_put (cs := #[.string (⟨#[]⟩ : ByteArray), .string (⟨#[]⟩ : ByteArray), .int .i64 0, .bool false]) ?_ 0 _ rfl; (with_reducible repeat (first | refine blk_drewN ?_ _ | refine blk_drew ?_ | refine blk_alloc ?_ _)); exact BK153.out) hb); have n3_ := Aside0.mk (below_step (by repeat (first | (with_reducible first | exact HB.out | apply below_alloc | apply pw_below_drewN | apply below_drew1 | refine below_set ?_ GE142.out | refine below_set ?_ GE148.out | refine below_set ?_ GE153.out) | exact HB.out)) hb); clear BK142; clear BK148; clear BK153; clear HB; have BK142 := n0_; have BK148 := n1_; have BK153 := n2_; have HB := n3_; clear n0_ n1_ n2_ n3_; (try clear hb); (try clear hb2); (try clear hk); (try clear hi)) | ((with_reducible refine gate_dst (N := 10) rfl ?_); (try (refine gate_guard (by rfl) ?_; dsimp only)); refine box_event ?hg (N := 10) ?hd (cs := #[.string (⟨#[]⟩ : ByteArray), .string (⟨#[]⟩ : ByteArray), .int .i64 0, .bool false]) (t := 60) ?hr ?_; (case hd => rfl); (case hg => rfl); (case hr => first | (go_simp; done) | (go_simp; rfl)); intro gb159 hg w69 hbox hb; have n0_ := Aside0.mk (blk_below (g := gb142) (o := .cells #[.string a0_0, .string a0_1, .int .i64 a0_2, .bool a0_3] 60 (0, 0)) (pB BK142.out) hb); have n1_ := Aside0.mk (blk_below (g := gb148) (o := .cells #[.string t144, .string t145, .int .i64 t146, .bool t147] 60 (0, 0)) (pB BK148.out) hb); have n2_ := Aside0.mk (blk_below (g := gb153) (o := .cells #[.string t149, .string t150, .int .i64 t151, .bool t152] 60 (0, 0)) (pB BK153.out) hb); have n3_ := Aside0.mk (below_step (by repeat (first | (with_reducible first | exact HB.out | apply below_alloc | apply pw_below_drewN | apply below_drew1 | refine below_set ?_ GE142.out | refine below_set ?_ GE148.out | refine below_set ?_ GE153.out) | exact HB.out)) hb); have n4_ := Aside0.mk (hbox); have n5_ := Aside0.mk ((by rw [hg]; exact (below_size (by repeat (first | (with_reducible first | exact HB.out | apply below_alloc | apply pw_below_drewN | apply below_drew1 | refine below_set ?_ GE142.out | refine below_set ?_ GE148.out | refine below_set ?_ GE153.out) | exact HB.out))) : w.heap.size ≤ gb159)); have n6_ := Aside0.mk ((by rw [hg]; exact (below_size (by repeat (first | (with_reducible first | exact HB.out | apply below_alloc | apply pw_below_drewN | apply below_drew1 | refine below_set ?_ GE142.out | refine below_set ?_ GE148.out | refine below_set ?_ GE153.out) | exact HB.out))) : w.heap.size ≤ gb159)); have n7_ := Aside0.mk ((by rw [hg]; exact Nat.ne_of_lt (blk_lt (g := gb142) (o := .cells #[.string a0_0, .string a0_1, .int .i64 a0_2, .bool a0_3] 60 (0, 0)) (pB BK142.out)) : gb142 ≠ gb159)); have n8_ := Aside0.mk ((by rw [hg]; exact Nat.ne_of_gt (blk_lt (g := gb142) (o := .cells #[.string a0_0, .string a0_1, .int .i64 a0_2, .bool a0_3] 60 (0, 0)) (pB BK142.out)) : gb159 ≠ gb142)); have n9_ := Aside0.mk ((by rw [hg]; exact Nat.ne_of_lt (blk_lt (g := gb148) (o := .cells #[.string t144, .string t145, .int .i64 t146, .bool t147] 60 (0, 0)) (pB BK148.out)) : gb148 ≠ gb159)); have n10_ := Aside0.mk ((by rw [hg]; exact Nat.ne_of_gt (blk_lt (g := gb148) (o := .cells #[.string t144, .string t145, .int .i64 t146, .bool t147] 60 (0, 0)) (pB BK148.out)) : gb159 ≠ gb148)); have n11_ := Aside0.mk ((by rw [hg]; exact Nat.ne_of_lt (blk_lt (g := gb153) (o := .cells #[.string t149, .string t150, .int .i64 t151, .bool t152] 60 (0, 0)) (pB BK153.out)) : gb153 ≠ gb159)); have n12_ := Aside0.mk ((by rw [hg]; exact Nat.ne_of_gt (blk_lt (g := gb153) (o := .cells #[.string t149, .string t150, .int .i64 t151, .bool t152] 60 (0, 0)) (pB BK153.out)) : gb159 ≠ gb153)); clear BK142; clear BK148; clear BK153; clear HB; have BK142 := n0_; have BK148 := n1_; have BK153 := n2_; have HB := n3_; have BK159 := n4_; have GW159 := n5_; have GE159 := n6_; have NB142_159 := n7_; have NB159_142 := n8_; have NB148_159 := n9_; have NB159_148 := n10_; have NB153_159 := n11_; have NB159_153 := n12_; clear n0_ n1_ n2_ n3_ n4_ n5_ n6_ n7_ n8_ n9_ n10_ n11_ n12_; clear hb hbox hg; have hnb70 := NB159_142.out; have hnc70 := NB142_159.out; have hnb71 := NB159_148.out; have hnc71 := NB148_159.out; have hnb72 := NB159_153.out; have hnc72 := NB153_159.out; have hcz73_0 : w69.cell? ⟨gb159, 0, none⟩ = some (.string (⟨#[]⟩ : ByteArray)) := (blk_cell BK159.out 0).trans rfl; have hcz73_1 : w69.cell? ⟨gb159, 1, none⟩ = some (.string (⟨#[]⟩ : ByteArray)) := (blk_cell BK159.out 1).trans rfl; have hcz73_2 : w69.cell? ⟨gb159, 2, none⟩ = some (.int .i64 0) := (blk_cell BK159.out 2).trans rfl; have hcz73_3 : w69.cell? ⟨gb159, 3, none⟩ = some (.bool false) := (blk_cell BK159.out 3).trans rfl; have hfz73_0 := blk_frozen BK159.out 0; have hfz73_1 := blk_frozen BK159.out 1; have hfz73_2 := blk_frozen BK159.out 2; have hfz73_3 := blk_frozen BK159.out 3) | ((with_reducible refine gate_callee (f := 38) rfl ?_); refine goesL_ (some 40) rfl rfl Try.func38 (by kernel_rfl) rfl #[.agg #[.string t154, .string t155, .int .i64 t156, .bool t157]] rfl (by (try simp only [List.map_toArray, List.map_cons, List.map_nil]); first | done | rfl | (simp only [List.length_drop, List.length_take]; rfl)) ?_; (with_reducible refine (paper_Sync.calls t154 t155 t156 t157 t160 t161 t162 t163 t164 _ A15.out).mono ?_); rintro e w74 ⟨rfl, hb⟩; refine ⟨_, rfl, ?_⟩; have n0_ := Aside0.mk (blk_below (g := gb142) (o := .cells #[.string a0_0, .string a0_1, .int .i64 a0_2, .bool a0_3] 60 (0, 0)) (by (with_reducible repeat (first | refine blk_drewN ?_ _ | refine blk_drew ?_ | refine blk_alloc ?_ _)); refine blk_far ?_ NB142_159.out _; (with_reducible repeat (first | refine blk_drewN ?_ _ | refine blk_drew ?_ | refine blk_alloc ?_ _)); refine blk_far ?_ NB142_159.out _; (with_reducible repeat (first | refine blk_drewN ?_ _ | refine blk_drew ?_ | refine blk_alloc ?_ _)); refine blk_far ?_ NB142_159.out _; (with_reducible repeat (first | refine blk_drewN ?_ _ | refine blk_drew ?_ | refine blk_alloc ?_ _)); refine blk_far ?_ NB142_159.out _; (with_reducible repeat (first | refine blk_drewN ?_ _ | refine blk_drew ?_ | refine blk_alloc ?_ _)); exact BK142.out) hb); have n1_ := Aside0.mk (blk_below (g := gb148) (o := .cells #[.string t144, .string t145, .int .i64 t146, .bool t147] 60 (0, 0)) (by (with_reducible repeat (first | refine blk_drewN ?_ _ | refine blk_drew ?_ | refine blk_alloc ?_ _)); refine blk_far ?_ NB148_159.out _; (with_reducible repeat (first | refine blk_drewN ?_ _ | refine blk_drew ?_ | refine blk_alloc ?_ _)); refine blk_far ?_ NB148_159.out _; (with_reducible repeat (first | refine blk_drewN ?_ _ | refine blk_drew ?_ | refine blk_alloc ?_ _)); refine blk_far ?_ NB148_159.out _; (with_reducible repeat (first | refine blk_drewN ?_ _ | refine blk_drew ?_ | refine blk_alloc ?_ _)); refine blk_far ?_ NB148_159.out _; (with_reducible repeat (first | refine blk_drewN ?_ _ | refine blk_drew ?_ | refine blk_alloc ?_ _)); exact BK148.out) hb); have n2_ := Aside0.mk (blk_below (g := gb153) (o := .cells #[.string t149, .string t150, .int .i64 t151, .bool t152] 60 (0, 0)) (by (with_reducible repeat (first | refine blk_drewN ?_ _ | refine blk_drew ?_ | refine blk_alloc ?_ _)); refine blk_far ?_ NB153_159.out _; (with_reducible repeat (first | refine blk_drewN ?_ _ | refine blk_drew ?_ | refine blk_alloc ?_ _)); refine blk_far ?_ NB153_159.out _; (with_reducible repeat (first | refine blk_drewN ?_ _ | refine blk_drew ?_ | refine blk_alloc ?_ _)); refine blk_far ?_ NB153_159.out _; (with_reducible repeat (first | refine blk_drewN ?_ _ | refine blk_drew ?_ | refine blk_alloc ?_ _)); refine blk_far ?_ NB153_159.out _; (with_reducible repeat (first | refine blk_drewN ?_ _ | refine blk_drew ?_ | refine blk_alloc ?_ _)); exact BK153.out) hb); have n3_ := Aside0.mk (blk_below (g := gb159) (o := .cells #[.string t154, .string t155, .int .i64 t156, .bool t157] 60 (0, 0)) (by (with_reducible repeat (first | refine blk_drewN ?_ _ | refine blk_drew ?_ | refine blk_alloc ?_ _)); refine blk_put (cs := #[.string t154, .string t155, .int .i64 t156, .bool false]) ?_ 3 _ rfl; (with_reducible repeat (first | refine blk_drewN ?_ _ | refine blk_drew ?_ | refine blk_alloc ?_ _)); refine blk_put (cs := #[.string t154, .string t155, .int .i64 0, .bool false]) ?_ 2 _ rfl; (with_reducible repeat (first | refine blk_drewN ?_ _ | refine blk_drew ?_ | refine blk_alloc ?_ _)); refine blk_put (cs := #[.string t154, .string (⟨#[]⟩ : ByteArray), .int .i64 0, .bool false]) ?_ 1 _ rfl; (with_reducible repeat (first | refine blk_drewN ?_ _ | refine blk_drew ?_ | refine blk_alloc ?_ _)); refine blk_put (cs := #[.string (⟨#[]⟩ : ByteArray), .string (⟨#[]⟩ : ByteArray), .int .i64 0, .bool false]) ?_ 0 _ rfl; (with_reducible repeat (first | refine blk_drewN ?_ _ | refine blk_drew ?_ | refine blk_alloc ?_ _)); exact BK159.out) hb); have n4_ := Aside0.mk (below_step (by repeat (first | (with_reducible first | exact HB.out | apply below_alloc | apply pw_below_drewN | apply below_drew1 | refine below_set ?_ GE142.out | refine below_set ?_ GE148.out | refine below_set ?_ GE153.out | refine below_set ?_ GE159.out) | exact HB.out)) hb); clear BK142; clear BK148; clear BK153; clear BK159; clear HB; have BK142 := n0_; have BK148 := n1_; have BK153 := n2_; have BK159 := n3_; have HB := n4_; clear n0_ n1_ n2_ n3_ n4_; (try clear hb); (try clear hb2); (try clear hk); (try clear hi)) | ((with_reducible refine gate_dst (N := 12) rfl ?_); (try (refine gate_guard (by rfl) ?_; dsimp only)); refine box_event ?hg (N := 12) ?hd (cs := #[.string (⟨#[]⟩ : ByteArray), .string (⟨#[]⟩ : ByteArray), .int .i64 0, .bool false]) (t := 60) ?hr ?_; (case hd => rfl); (case hg => rfl); (case hr => first | (go_simp; done) | (go_simp; rfl)); intro gb165 hg w75 hbox hb; have n0_ := Aside0.mk (blk_below (g := gb142) (o := .cells #[.string a0_0, .string a0_1, .int .i64 a0_2, .bool a0_3] 60 (0, 0)) (pB BK142.out) hb); have n1_ := Aside0.mk (blk_below (g := gb148) (o := .cells #[.string t144, .string t145, .int .i64 t146, .bool t147] 60 (0, 0)) (pB BK148.out) hb); have n2_ := Aside0.mk (blk_below (g := gb153) (o := .cells #[.string t149, .string t150, .int .i64 t151, .bool t152] 60 (0, 0)) (pB BK153.out) hb); have n3_ := Aside0.mk (blk_below (g := gb159) (o := .cells #[.string t154, .string t155, .int .i64 t156, .bool t157] 60 (0, 0)) (pB BK159.out) hb); have n4_ := Aside0.mk (below_step (by repeat (first | (with_reducible first | exact HB.out | apply below_alloc | apply pw_below_drewN | apply below_drew1 | refine below_set ?_ GE142.out | refine below_set ?_ GE148.out | refine below_set ?_ GE153.out | refine below_set ?_ GE159.out) | exact HB.out)) hb); have n5_ := Aside0.mk (hbox); have n6_ := Aside0.mk ((by rw [hg]; exact (below_size (by repeat (first | (with_reducible first | exact HB.out | apply below_alloc | apply pw_below_drewN | apply below_drew1 | refine below_set ?_ GE142.out | refine below_set ?_ GE148.out | refine below_set ?_ GE153.out | refine below_set ?_ GE159.out) | exact HB.out))) : w.heap.size ≤ gb165)); have n7_ := Aside0.mk ((by rw [hg]; exact (below_size (by repeat (first | (with_reducible first | exact HB.out | apply below_alloc | apply pw_below_drewN | apply below_drew1 | refine below_set ?_ GE142.out | refine below_set ?_ GE148.out | refine below_set ?_ GE153.out | refine below_set ?_ GE159.out) | exact HB.out))) : w.heap.size ≤ gb165)); have n8_ := Aside0.mk ((by rw [hg]; exact Nat.ne_of_lt (blk_lt (g := gb142) (o := .cells #[.string a0_0, .string a0_1, .int .i64 a0_2, .bool a0_3] 60 (0, 0)) (pB BK142.out)) : gb142 ≠ gb165)); have n9_ := Aside0.mk ((by rw [hg]; exact Nat.ne_of_gt (blk_lt (g := gb142) (o := .cells #[.string a0_0, .string a0_1, .int .i64 a0_2, .bool a0_3] 60 (0, 0)) (pB BK142.out)) : gb165 ≠ gb142)); have n10_ := Aside0.mk ((by rw [hg]; exact Nat.ne_of_lt (blk_lt (g := gb148) (o := .cells #[.string t144, .string t145, .int .i64 t146, .bool t147] 60 (0, 0)) (pB BK148.out)) : gb148 ≠ gb165)); have n11_ := Aside0.mk ((by rw [hg]; exact Nat.ne_of_gt (blk_lt (g := gb148) (o := .cells #[.string t144, .string t145, .int .i64 t146, .bool t147] 60 (0, 0)) (pB BK148.out)) : gb165 ≠ gb148)); have n12_ := Aside0.mk ((by rw [hg]; exact Nat.ne_of_lt (blk_lt (g := gb153) (o := .cells #[.string t149, .string t150, .int .i64 t151, .bool t152] 60 (0, 0)) (pB BK153.out)) : gb153 ≠ gb165)); have n13_ := Aside0.mk ((by rw [hg]; exact Nat.ne_of_gt (blk_lt (g := gb153) (o := .cells #[.string t149, .string t150, .int .i64 t151, .bool t152] 60 (0, 0)) (pB BK153.out)) : gb165 ≠ gb153)); have n14_ := Aside0.mk ((by rw [hg]; exact Nat.ne_of_lt (blk_lt (g := gb159) (o := .cells #[.string t154, .string t155, .int .i64 t156, .bool t157] 60 (0, 0)) (pB BK159.out)) : gb159 ≠ gb165)); have n15_ := Aside0.mk ((by rw [hg]; exact Nat.ne_of_gt (blk_lt (g := gb159) (o := .cells #[.string t154, .string t155, .int .i64 t156, .bool t157] 60 (0, 0)) (pB BK159.out)) : gb165 ≠ gb159)); clear BK142; clear BK148; clear BK153; clear BK159; clear HB; have BK142 := n0_; have BK148 := n1_; have BK153 := n2_; have BK159 := n3_; have HB := n4_; have BK165 := n5_; have GW165 := n6_; have GE165 := n7_; have NB142_165 := n8_; have NB165_142 := n9_; have NB148_165 := n10_; have NB165_148 := n11_; have NB153_165 := n12_; have NB165_153 := n13_; have NB159_165 := n14_; have NB165_159 := n15_; clear n0_ n1_ n2_ n3_ n4_ n5_ n6_ n7_ n8_ n9_ n10_ n11_ n12_ n13_ n14_ n15_; clear hb hbox hg; have hnb76 := NB165_142.out; have hnc76 := NB142_165.out; have hnb77 := NB165_148.out; have hnc77 := NB148_165.out; have hnb78 := NB165_153.out; have hnc78 := NB153_165.out; have hnb79 := NB165_159.out; have hnc79 := NB159_165.out; have hcz80_0 : w75.cell? ⟨gb165, 0, none⟩ = some (.string (⟨#[]⟩ : ByteArray)) := (blk_cell BK165.out 0).trans rfl; have hcz80_1 : w75.cell? ⟨gb165, 1, none⟩ = some (.string (⟨#[]⟩ : ByteArray)) := (blk_cell BK165.out 1).trans rfl; have hcz80_2 : w75.cell? ⟨gb165, 2, none⟩ = some (.int .i64 0) := (blk_cell BK165.out 2).trans rfl; have hcz80_3 : w75.cell? ⟨gb165, 3, none⟩ = some (.bool false) := (blk_cell BK165.out 3).trans rfl; have hfz80_0 := blk_frozen BK165.out 0; have hfz80_1 := blk_frozen BK165.out 1; have hfz80_2 := blk_frozen BK165.out 2; have hfz80_3 := blk_frozen BK165.out 3))
        have n0_ : Aside0 (((((w75.setCell ⟨gb165, 0, none⟩ (.string t160)).setCell ⟨gb165, 1, none⟩ (.string t161)).setCell ⟨gb165, 2, none⟩ (.int .i64 t162)).setCell ⟨gb165, 3, none⟩ (.bool t163)).heap[gb142]? = some (.cells #[.string a0_0, .string a0_1, .int .i64 a0_2, .bool a0_3] 60 (0, 0))) := ⟨by (with_reducible repeat (first | refine blk_drewN ?_ _ | refine blk_drew ?_ | refine blk_alloc ?_ _)); refine blk_far ?_ NB142_165.out _; (with_reducible repeat (first | refine blk_drewN ?_ _ | refine blk_drew ?_ | refine blk_alloc ?_ _)); refine blk_far ?_ NB142_165.out _; (with_reducible repeat (first | refine blk_drewN ?_ _ | refine blk_drew ?_ | refine blk_alloc ?_ _)); refine blk_far ?_ NB142_165.out _; (with_reducible repeat (first | refine blk_drewN ?_ _ | refine blk_drew ?_ | refine blk_alloc ?_ _)); refine blk_far ?_ NB142_165.out _; (with_reducible repeat (first | refine blk_drewN ?_ _ | refine blk_drew ?_ | refine blk_alloc ?_ _)); exact BK142.out⟩
        have n1_ : Aside0 (((((w75.setCell ⟨gb165, 0, none⟩ (.string t160)).setCell ⟨gb165, 1, none⟩ (.string t161)).setCell ⟨gb165, 2, none⟩ (.int .i64 t162)).setCell ⟨gb165, 3, none⟩ (.bool t163)).heap[gb148]? = some (.cells #[.string t144, .string t145, .int .i64 t146, .bool t147] 60 (0, 0))) := ⟨by (with_reducible repeat (first | refine blk_drewN ?_ _ | refine blk_drew ?_ | refine blk_alloc ?_ _)); refine blk_far ?_ NB148_165.out _; (with_reducible repeat (first | refine blk_drewN ?_ _ | refine blk_drew ?_ | refine blk_alloc ?_ _)); refine blk_far ?_ NB148_165.out _; (with_reducible repeat (first | refine blk_drewN ?_ _ | refine blk_drew ?_ | refine blk_alloc ?_ _)); refine blk_far ?_ NB148_165.out _; (with_reducible repeat (first | refine blk_drewN ?_ _ | refine blk_drew ?_ | refine blk_alloc ?_ _)); refine blk_far ?_ NB148_165.out _; (with_reducible repeat (first | refine blk_drewN ?_ _ | refine blk_drew ?_ | refine blk_alloc ?_ _)); exact BK148.out⟩
        have n2_ : Aside0 (((((w75.setCell ⟨gb165, 0, none⟩ (.string t160)).setCell ⟨gb165, 1, none⟩ (.string t161)).setCell ⟨gb165, 2, none⟩ (.int .i64 t162)).setCell ⟨gb165, 3, none⟩ (.bool t163)).heap[gb153]? = some (.cells #[.string t149, .string t150, .int .i64 t151, .bool t152] 60 (0, 0))) := ⟨by (with_reducible repeat (first | refine blk_drewN ?_ _ | refine blk_drew ?_ | refine blk_alloc ?_ _)); refine blk_far ?_ NB153_165.out _; (with_reducible repeat (first | refine blk_drewN ?_ _ | refine blk_drew ?_ | refine blk_alloc ?_ _)); refine blk_far ?_ NB153_165.out _; (with_reducible repeat (first | refine blk_drewN ?_ _ | refine blk_drew ?_ | refine blk_alloc ?_ _)); refine blk_far ?_ NB153_165.out _; (with_reducible repeat (first | refine blk_drewN ?_ _ | refine blk_drew ?_ | refine blk_alloc ?_ _)); refine blk_far ?_ NB153_165.out _; (with_reducible repeat (first | refine blk_drewN ?_ _ | refine blk_drew ?_ | refine blk_alloc ?_ _)); exact BK153.out⟩
        have n3_ : Aside0 (((((w75.setCell ⟨gb165, 0, none⟩ (.string t160)).setCell ⟨gb165, 1, none⟩ (.string t161)).setCell ⟨gb165, 2, none⟩ (.int .i64 t162)).setCell ⟨gb165, 3, none⟩ (.bool t163)).heap[gb159]? = some (.cells #[.string t154, .string t155, .int .i64 t156, .bool t157] 60 (0, 0))) := ⟨by (with_reducible repeat (first | refine blk_drewN ?_ _ | refine blk_drew ?_ | refine blk_alloc ?_ _)); refine blk_far ?_ NB159_165.out _; (with_reducible repeat (first | refine blk_drewN ?_ _ | refine blk_drew ?_ | refine blk_alloc ?_ _)); refine blk_far ?_ NB159_165.out _; (with_reducible repeat (first | refine blk_drewN ?_ _ | refine blk_drew ?_ | refine blk_alloc ?_ _)); refine blk_far ?_ NB159_165.out _; (with_reducible repeat (first | refine blk_drewN ?_ _ | refine blk_drew ?_ | refine blk_alloc ?_ _)); refine blk_far ?_ NB159_165.out _; (with_reducible repeat (first | refine blk_drewN ?_ _ | refine blk_drew ?_ | refine blk_alloc ?_ _)); exact BK159.out⟩
        have n4_ : Aside0 (((((w75.setCell ⟨gb165, 0, none⟩ (.string t160)).setCell ⟨gb165, 1, none⟩ (.string t161)).setCell ⟨gb165, 2, none⟩ (.int .i64 t162)).setCell ⟨gb165, 3, none⟩ (.bool t163)).heap[gb165]? = some (.cells #[.string t160, .string t161, .int .i64 t162, .bool t163] 60 (0, 0))) := ⟨by (with_reducible repeat (first | refine blk_drewN ?_ _ | refine blk_drew ?_ | refine blk_alloc ?_ _)); refine blk_put (cs := #[.string t160, .string t161, .int .i64 t162, .bool false]) ?_ 3 _ rfl; (with_reducible repeat (first | refine blk_drewN ?_ _ | refine blk_drew ?_ | refine blk_alloc ?_ _)); refine blk_put (cs := #[.string t160, .string t161, .int .i64 0, .bool false]) ?_ 2 _ rfl; (with_reducible repeat (first | refine blk_drewN ?_ _ | refine blk_drew ?_ | refine blk_alloc ?_ _)); refine blk_put (cs := #[.string t160, .string (⟨#[]⟩ : ByteArray), .int .i64 0, .bool false]) ?_ 1 _ rfl; (with_reducible repeat (first | refine blk_drewN ?_ _ | refine blk_drew ?_ | refine blk_alloc ?_ _)); refine blk_put (cs := #[.string (⟨#[]⟩ : ByteArray), .string (⟨#[]⟩ : ByteArray), .int .i64 0, .bool false]) ?_ 0 _ rfl; (with_reducible repeat (first | refine blk_drewN ?_ _ | refine blk_drew ?_ | refine blk_alloc ?_ _)); exact BK165.out⟩
        have n5_ : Aside0 (Below w.heap.size w ((((w75.setCell ⟨gb165, 0, none⟩ (.string t160)).setCell ⟨gb165, 1, none⟩ (.string t161)).setCell ⟨gb165, 2, none⟩ (.int .i64 t162)).setCell ⟨gb165, 3, none⟩ (.bool t163))) := ⟨by repeat (first | (with_reducible first | exact HB.out | apply below_alloc | apply pw_below_drewN | apply below_drew1 | refine below_set ?_ GE142.out | refine below_set ?_ GE148.out | refine below_set ?_ GE153.out | refine below_set ?_ GE159.out | refine below_set ?_ GE165.out) | exact HB.out)⟩
        (try clear BK142)
        (try clear BK148)
        (try clear BK153)
        (try clear BK159)
        (try clear BK165)
        (try clear HB)
        generalize ((((w75.setCell ⟨gb165, 0, none⟩ (.string t160)).setCell ⟨gb165, 1, none⟩ (.string t161)).setCell ⟨gb165, 2, none⟩ (.int .i64 t162)).setCell ⟨gb165, 3, none⟩ (.bool t163)) = w81 at n0_ n1_ n2_ n3_ n4_ n5_ ⊢
        have BK142 := n0_
        have BK148 := n1_
        have BK153 := n2_
        have BK159 := n3_
        have BK165 := n4_
        have HB := n5_
        clear n0_ n1_ n2_ n3_ n4_ n5_
        have n0_ := Aside0.mk (blk_drew BK142.out)
        have n1_ := Aside0.mk (blk_drew BK148.out)
        have n2_ := Aside0.mk (blk_drew BK153.out)
        have n3_ := Aside0.mk (blk_drew BK159.out)
        have n4_ := Aside0.mk (blk_drew BK165.out)
        have n5_ := Aside0.mk (below_drew1 HB.out)
        clear BK142
        clear BK148
        clear BK153
        clear BK159
        clear BK165
        clear HB
        have BK142 := n0_
        have BK148 := n1_
        have BK153 := n2_
        have BK159 := n3_
        have BK165 := n4_
        have HB := n5_
        clear n0_ n1_ n2_ n3_ n4_ n5_
        refine start_ (n := 6) (S := fun w' => w'.cell? ⟨gb142, 0, none⟩ = some (.string a0_0) ∧ w'.cell? ⟨gb142, 1, none⟩ = some (.string a0_1) ∧ w'.cell? ⟨gb142, 2, none⟩ = some (.int .i64 a0_2) ∧ w'.cell? ⟨gb142, 3, none⟩ = some (.bool a0_3) ∧ w'.cell? ⟨gb159, 0, none⟩ = some (.string t154) ∧ w'.cell? ⟨gb159, 1, none⟩ = some (.string t155) ∧ w'.cell? ⟨gb159, 2, none⟩ = some (.int .i64 t156) ∧ w'.cell? ⟨gb159, 3, none⟩ = some (.bool t157)) (ds := []) #[false, false, false, false, false, false] (by kernel_rfl) rfl rfl ⟨(blk_cell BK142.out 0).trans rfl, (blk_cell BK142.out 1).trans rfl, (blk_cell BK142.out 2).trans rfl, (blk_cell BK142.out 3).trans rfl, (blk_cell BK159.out 0).trans rfl, (blk_cell BK159.out 1).trans rfl, (blk_cell BK159.out 2).trans rfl, (blk_cell BK159.out 3).trans rfl⟩ (fun hHeld => ?_)
        generalize w81.drew = w82 at BK142 BK148 BK153 BK159 BK165 HB hHeld ⊢
        refine take_ (i := 0) (N := some 43) (v := ?_) (a' := ?_) #[true, false, false, false, false, false] rfl rfl (by kernel_rfl) (fun _ _ _ h => h) (Or.inl ⟨by rfl, ?_⟩) hHeld ?_ ?_
        rotate_left
        ·
         rintro w' ⟨s0, s1, s2, s3, s4, s5, s6, s7⟩
         go_simp
         with_reducible rfl
        rotate_left
        ·
         simp only [Act.put, List.setIfInBounds_toArray, List.set_cons_zero, List.set_cons_succ, i64_w, i32_w]
         rfl
        refine take_ (i := 2) (N := some 45) (v := ?_) (a' := ?_) #[true, false, true, false, false, false] rfl rfl (by kernel_rfl) (fun _ _ _ h => h) (Or.inl ⟨by rfl, ?_⟩) hHeld ?_ ?_
        rotate_left
        ·
         rintro w' ⟨s0, s1, s2, s3, s4, s5, s6, s7⟩
         go_simp
         with_reducible rfl
        rotate_left
        ·
         simp only [Act.put, List.setIfInBounds_toArray, List.set_cons_zero, List.set_cons_succ, i64_w, i32_w]
         rfl
        refine one_ (i := 1) (N := some 44) #[true, true, true, false, false, false] rfl rfl (by kernel_rfl) (by decide) (fun K hK => ?_)
        refine goes_ Try.func40 (by kernel_rfl) rfl #[.agg #[.string a0_0, .string a0_1, .int .i64 a0_2, .bool a0_3]] (by rfl) rfl rfl (by (try simp only [List.map_toArray, List.map_cons, List.map_nil]); first | done | rfl | (simp only [List.length_drop, List.length_take]; rfl)) ?_
        with_reducible refine (paper_Records.calls kj4 a0_0 a0_1 a0_2 a0_3 t166 _ A16.out).mono ?_
        rintro e w83 ⟨v167, rfl, ho0, hb⟩
        refine ⟨_, rfl, ?_⟩
        have n0_ := Aside0.mk (Kd.R_lower ho0 (below_size (by repeat (first | (with_reducible first | exact HB.out | apply below_alloc | apply pw_below_drewN | apply below_drew1 | refine below_set ?_ GE142.out | refine below_set ?_ GE148.out | refine below_set ?_ GE153.out | refine below_set ?_ GE159.out | refine below_set ?_ GE165.out) | exact HB.out))))
        have n1_ := Aside0.mk (blk_below (g := gb142) (o := .cells #[.string a0_0, .string a0_1, .int .i64 a0_2, .bool a0_3] 60 (0, 0)) (pB BK142.out) hb)
        have n2_ := Aside0.mk (blk_below (g := gb148) (o := .cells #[.string t144, .string t145, .int .i64 t146, .bool t147] 60 (0, 0)) (pB BK148.out) hb)
        have n3_ := Aside0.mk (blk_below (g := gb153) (o := .cells #[.string t149, .string t150, .int .i64 t151, .bool t152] 60 (0, 0)) (pB BK153.out) hb)
        have n4_ := Aside0.mk (blk_below (g := gb159) (o := .cells #[.string t154, .string t155, .int .i64 t156, .bool t157] 60 (0, 0)) (pB BK159.out) hb)
        have n5_ := Aside0.mk (blk_below (g := gb165) (o := .cells #[.string t160, .string t161, .int .i64 t162, .bool t163] 60 (0, 0)) (pB BK165.out) hb)
        have n6_ := Aside0.mk (below_step (by repeat (first | (with_reducible first | exact HB.out | apply below_alloc | apply pw_below_drewN | apply below_drew1 | refine below_set ?_ GE142.out | refine below_set ?_ GE148.out | refine below_set ?_ GE153.out | refine below_set ?_ GE159.out | refine below_set ?_ GE165.out) | exact HB.out)) hb)
        clear BK142
        clear BK148
        clear BK153
        clear BK159
        clear BK165
        clear HB
        have HO168 := n0_
        have BK142 := n1_
        have BK148 := n2_
        have BK153 := n3_
        have BK159 := n4_
        have BK165 := n5_
        have HB := n6_
        clear n0_ n1_ n2_ n3_ n4_ n5_ n6_
        (try clear hb)
        (try clear hb2)
        (try clear hk)
        (try clear hi)
        (try clear ho0)
        refine hK.out _ _ ⟨(blk_cell BK142.out 0).trans rfl, (blk_cell BK142.out 1).trans rfl, (blk_cell BK142.out 2).trans rfl, (blk_cell BK142.out 3).trans rfl, (blk_cell BK159.out 0).trans rfl, (blk_cell BK159.out 1).trans rfl, (blk_cell BK159.out 2).trans rfl, (blk_cell BK159.out 3).trans rfl⟩ (fun hHeld => ?_)
        clear hK K
        refine norm_ (a' := ?_) ?_ ?_
        rotate_left
        ·
         show Act.put _ (some 44) _ = _
         simp only [Act.put, List.setIfInBounds_toArray, List.set_cons_zero, List.set_cons_succ, i64_w, i32_w]
         rfl
        refine one_ (i := 3) (N := some 46) #[true, true, true, true, false, false] rfl rfl (by kernel_rfl) (by decide) (fun K hK => ?_)
        refine goes_ Try.func40 (by kernel_rfl) rfl #[.agg #[.string t154, .string t155, .int .i64 t156, .bool t157]] (by rfl) rfl rfl (by (try simp only [List.map_toArray, List.map_cons, List.map_nil]); first | done | rfl | (simp only [List.length_drop, List.length_take]; rfl)) ?_
        with_reducible refine (paper_Records.calls kj4 t154 t155 t156 t157 t169 _ A17.out).mono ?_
        rintro e w84 ⟨v170, rfl, ho0, hb⟩
        refine ⟨_, rfl, ?_⟩
        have n0_ := Aside0.mk (Kd.R_elder' (Kd.pR HO168.out) (Kd.R_base ho0) hb)
        have n1_ := Aside0.mk (Kd.R_lower (Kd.R_new' ho0 (Kd.R_lt (Kd.pR HO168.out))) (below_size (by repeat (first | (with_reducible first | exact HB.out | apply below_alloc | apply pw_below_drewN | apply below_drew1 | refine below_set ?_ GE142.out | refine below_set ?_ GE148.out | refine below_set ?_ GE153.out | refine below_set ?_ GE159.out | refine below_set ?_ GE165.out) | exact HB.out))))
        have n2_ := Aside0.mk (blk_below (g := gb142) (o := .cells #[.string a0_0, .string a0_1, .int .i64 a0_2, .bool a0_3] 60 (0, 0)) (pB BK142.out) hb)
        have n3_ := Aside0.mk (blk_below (g := gb148) (o := .cells #[.string t144, .string t145, .int .i64 t146, .bool t147] 60 (0, 0)) (pB BK148.out) hb)
        have n4_ := Aside0.mk (blk_below (g := gb153) (o := .cells #[.string t149, .string t150, .int .i64 t151, .bool t152] 60 (0, 0)) (pB BK153.out) hb)
        have n5_ := Aside0.mk (blk_below (g := gb159) (o := .cells #[.string t154, .string t155, .int .i64 t156, .bool t157] 60 (0, 0)) (pB BK159.out) hb)
        have n6_ := Aside0.mk (blk_below (g := gb165) (o := .cells #[.string t160, .string t161, .int .i64 t162, .bool t163] 60 (0, 0)) (pB BK165.out) hb)
        have n7_ := Aside0.mk (below_step (by repeat (first | (with_reducible first | exact HB.out | apply below_alloc | apply pw_below_drewN | apply below_drew1 | refine below_set ?_ GE142.out | refine below_set ?_ GE148.out | refine below_set ?_ GE153.out | refine below_set ?_ GE159.out | refine below_set ?_ GE165.out) | exact HB.out)) hb)
        clear HO168
        clear BK142
        clear BK148
        clear BK153
        clear BK159
        clear BK165
        clear HB
        have HO168 := n0_
        have HO171 := n1_
        have BK142 := n2_
        have BK148 := n3_
        have BK153 := n4_
        have BK159 := n5_
        have BK165 := n6_
        have HB := n7_
        clear n0_ n1_ n2_ n3_ n4_ n5_ n6_ n7_
        (try clear hb)
        (try clear hb2)
        (try clear hk)
        (try clear hi)
        (try clear ho0)
        obtain ⟨Ao85, co85, eo85⟩ := Kd.R_slice HO168.out
        (first | subst eo85 | (injection eo85 with f1_ f2_ f3_; have f4_ := f1_.symm; have f5_ := f3_.symm; clear f1_ f2_ f3_; subst f4_; subst f5_))
        obtain ⟨Ao86, co86, eo86⟩ := Kd.R_slice HO171.out
        (first | subst eo86 | (injection eo86 with f1_ f2_ f3_; have f4_ := f1_.symm; have f5_ := f3_.symm; clear f1_ f2_ f3_; subst f4_; subst f5_))
        refine hK.out _ _ ⟨(blk_cell BK142.out 0).trans rfl, (blk_cell BK142.out 1).trans rfl, (blk_cell BK142.out 2).trans rfl, (blk_cell BK142.out 3).trans rfl, (blk_cell BK159.out 0).trans rfl, (blk_cell BK159.out 1).trans rfl, (blk_cell BK159.out 2).trans rfl, (blk_cell BK159.out 3).trans rfl⟩ (fun hHeld => ?_)
        clear hK K
        refine norm_ (a' := ?_) ?_ ?_
        rotate_left
        ·
         show Act.put _ (some 46) _ = _
         simp only [Act.put, List.setIfInBounds_toArray, List.set_cons_zero, List.set_cons_succ, i64_w, i32_w]
         rfl
        refine one_ (i := 4) (N := some 47) #[true, true, true, true, true, false] rfl rfl (by kernel_rfl) (by decide) (fun K hK => ?_)
        refine goes_ Try.func28 (by kernel_rfl) rfl #[.slice Ao85 t166.length co85, .slice Ao86 t169.length co86] (by rfl) rfl rfl (by (try simp only [List.map_toArray, List.map_cons, List.map_nil]); first | done | rfl | (simp only [List.length_drop, List.length_take]; rfl)) ?_
        with_reducible refine (selvedgeref01_Same.calls kj4 _ _ t166 _ _ t169 t172 _ ?side1 ?side2 ?side3 ?side4 A18.out).mono ?_
        (case side1 => repeat (first | exact (Kd.R_reads' HO168.out).2.2 | (with_reducible refine Kd.C_alloc ?_ _) | (with_reducible refine Kd.C_drewN ?_ _) | (with_reducible refine Kd.C_drew ?_)))
        (case side2 => exact (Kd.R_reads' HO168.out).2.1)
        (case side3 => repeat (first | exact (Kd.R_reads' HO171.out).2.2 | (with_reducible refine Kd.C_alloc ?_ _) | (with_reducible refine Kd.C_drewN ?_ _) | (with_reducible refine Kd.C_drew ?_)))
        (case side4 => exact (Kd.R_reads' HO171.out).2.1)
        rintro e w' ⟨rfl, ⟨nd, rfl⟩⟩
        refine ⟨_, rfl, ?_⟩
        refine hK.out _ _ ⟨(blk_cell BK142.out 0).trans rfl, (blk_cell BK142.out 1).trans rfl, (blk_cell BK142.out 2).trans rfl, (blk_cell BK142.out 3).trans rfl, (blk_cell BK159.out 0).trans rfl, (blk_cell BK159.out 1).trans rfl, (blk_cell BK159.out 2).trans rfl, (blk_cell BK159.out 3).trans rfl⟩ (fun hHeld => ?_)
        clear hK K
        refine norm_ (a' := ?_) ?_ ?_
        rotate_left
        ·
         show Act.put _ (some 47) _ = _
         simp only [Act.put, List.setIfInBounds_toArray, List.set_cons_zero, List.set_cons_succ, i64_w, i32_w]
         rfl
        refine pure_ (i := 5) (N := some 14) (v := ?_) (a' := ?_) #[true, true, true, true, true, true] rfl rfl (by kernel_rfl) (fun _ _ _ h => h) (Or.inl ⟨by rfl, ?_⟩) ?_ ?_
        rotate_left
        ·
         intro w'
         go_simp
         with_reducible rfl
        rotate_left
        ·
         simp only [Act.put, List.setIfInBounds_toArray, List.set_cons_zero, List.set_cons_succ, i64_w, i32_w]
         rfl
        refine done_ (by kernel_rfl) ?_
        have hcz87_0 : w84.cell? ⟨gb148, 0, none⟩ = some (.string t144) := (blk_cell BK148.out 0).trans rfl
        have hcz87_1 : w84.cell? ⟨gb148, 1, none⟩ = some (.string t145) := (blk_cell BK148.out 1).trans rfl
        have hcz87_2 : w84.cell? ⟨gb148, 2, none⟩ = some (.int .i64 t146) := (blk_cell BK148.out 2).trans rfl
        have hcz87_3 : w84.cell? ⟨gb148, 3, none⟩ = some (.bool t147) := (blk_cell BK148.out 3).trans rfl
        have hfz87_0 := blk_frozen BK148.out 0
        have hfz87_1 := blk_frozen BK148.out 1
        have hfz87_2 := blk_frozen BK148.out 2
        have hfz87_3 := blk_frozen BK148.out 3
        have hcz88_0 : w84.cell? ⟨gb153, 0, none⟩ = some (.string t149) := (blk_cell BK153.out 0).trans rfl
        have hcz88_1 : w84.cell? ⟨gb153, 1, none⟩ = some (.string t150) := (blk_cell BK153.out 1).trans rfl
        have hcz88_2 : w84.cell? ⟨gb153, 2, none⟩ = some (.int .i64 t151) := (blk_cell BK153.out 2).trans rfl
        have hcz88_3 : w84.cell? ⟨gb153, 3, none⟩ = some (.bool t152) := (blk_cell BK153.out 3).trans rfl
        have hfz88_0 := blk_frozen BK153.out 0
        have hfz88_1 := blk_frozen BK153.out 1
        have hfz88_2 := blk_frozen BK153.out 2
        have hfz88_3 := blk_frozen BK153.out 3
        have hcz89_0 : w84.cell? ⟨gb159, 0, none⟩ = some (.string t154) := (blk_cell BK159.out 0).trans rfl
        have hcz89_1 : w84.cell? ⟨gb159, 1, none⟩ = some (.string t155) := (blk_cell BK159.out 1).trans rfl
        have hcz89_2 : w84.cell? ⟨gb159, 2, none⟩ = some (.int .i64 t156) := (blk_cell BK159.out 2).trans rfl
        have hcz89_3 : w84.cell? ⟨gb159, 3, none⟩ = some (.bool t157) := (blk_cell BK159.out 3).trans rfl
        have hfz89_0 := blk_frozen BK159.out 0
        have hfz89_1 := blk_frozen BK159.out 1
        have hfz89_2 := blk_frozen BK159.out 2
        have hfz89_3 := blk_frozen BK159.out 3
        have hcz90_0 : w84.cell? ⟨gb165, 0, none⟩ = some (.string t160) := (blk_cell BK165.out 0).trans rfl
        have hcz90_1 : w84.cell? ⟨gb165, 1, none⟩ = some (.string t161) := (blk_cell BK165.out 1).trans rfl
        have hcz90_2 : w84.cell? ⟨gb165, 2, none⟩ = some (.int .i64 t162) := (blk_cell BK165.out 2).trans rfl
        have hcz90_3 : w84.cell? ⟨gb165, 3, none⟩ = some (.bool t163) := (blk_cell BK165.out 3).trans rfl
        have hfz90_0 := blk_frozen BK165.out 0
        have hfz90_1 := blk_frozen BK165.out 1
        have hfz90_2 := blk_frozen BK165.out 2
        have hfz90_3 := blk_frozen BK165.out 3
        try go_wp2
        go_ret
        exact ⟨by first | rfl | (simp [errW_none, errW_some] <;> rfl) | (simp [*, errW_none, errW_some] <;> rfl), by repeat (first | (with_reducible first | exact HB.out | apply below_alloc | apply pw_below_drewN | apply below_drew1 | refine below_set ?_ GE142.out | refine below_set ?_ GE148.out | refine below_set ?_ GE153.out | refine below_set ?_ GE159.out | refine below_set ?_ GE165.out) | exact HB.out)⟩
      ·
       rw [if_neg c21] at H
       have c21b0 : (t158 == t164) = false := beq_eq_false_iff_ne.mpr c21
       have c21b1 : (t158 != t164) = true := bne_iff_ne.mpr c21
       obtain rfl := Option.some.inj H
       have hcz91_0 : wc.cell? ⟨gb142, 0, none⟩ = some (.string a0_0) := (blk_cell BK142.out 0).trans rfl
       have hcz91_1 : wc.cell? ⟨gb142, 1, none⟩ = some (.string a0_1) := (blk_cell BK142.out 1).trans rfl
       have hcz91_2 : wc.cell? ⟨gb142, 2, none⟩ = some (.int .i64 a0_2) := (blk_cell BK142.out 2).trans rfl
       have hcz91_3 : wc.cell? ⟨gb142, 3, none⟩ = some (.bool a0_3) := (blk_cell BK142.out 3).trans rfl
       have hfz91_0 := blk_frozen BK142.out 0
       have hfz91_1 := blk_frozen BK142.out 1
       have hfz91_2 := blk_frozen BK142.out 2
       have hfz91_3 := blk_frozen BK142.out 3
       try go_wp2_with (first | ((with_reducible refine gate_callee (f := 39) rfl ?_); refine goesL_ (some 29) rfl rfl Try.func39 (by kernel_rfl) rfl #[.agg #[.string a0_0, .string a0_1, .int .i64 a0_2, .bool a0_3], .int .i64 a1] rfl (by (try simp only [List.map_toArray, List.map_cons, List.map_nil]); first | done | rfl | (simp only [List.length_drop, List.length_take]; rfl)) ?_; (with_reducible refine (paper_Crash.calls kj4 a0_0 a0_1 a0_2 a0_3 a1 t144 t145 t146 t147 _ A12.out).mono ?_); rintro e w92 ⟨rfl, hb⟩; refine ⟨_, rfl, ?_⟩; have n0_ := Aside0.mk (blk_below (g := gb142) (o := .cells #[.string a0_0, .string a0_1, .int .i64 a0_2, .bool a0_3] 60 (0, 0)) (pB BK142.out) hb); have n1_ := Aside0.mk (below_step (by repeat (first | (with_reducible first | exact HB.out | apply below_alloc | apply pw_below_drewN | apply below_drew1 | refine below_set ?_ GE142.out) | exact HB.out)) hb); clear BK142; clear HB; have BK142 := n0_; have HB := n1_; clear n0_ n1_; (try clear hb); (try clear hb2); (try clear hk); (try clear hi)) | ((with_reducible refine gate_dst (N := 8) rfl ?_); (try (refine gate_guard (by rfl) ?_; dsimp only)); refine box_event ?hg (N := 8) ?hd (cs := #[.string (⟨#[]⟩ : ByteArray), .string (⟨#[]⟩ : ByteArray), .int .i64 0, .bool false]) (t := 60) ?hr ?_; (case hd => rfl); (case hg => rfl); (case hr => first | (go_simp; done) | (go_simp; rfl)); intro gb148 hg w93 hbox hb; have n0_ := Aside0.mk (blk_below (g := gb142) (o := .cells #[.string a0_0, .string a0_1, .int .i64 a0_2, .bool a0_3] 60 (0, 0)) (pB BK142.out) hb); have n1_ := Aside0.mk (below_step (by repeat (first | (with_reducible first | exact HB.out | apply below_alloc | apply pw_below_drewN | apply below_drew1 | refine below_set ?_ GE142.out) | exact HB.out)) hb); have n2_ := Aside0.mk (hbox); have n3_ := Aside0.mk ((by rw [hg]; exact (below_size (by repeat (first | (with_reducible first | exact HB.out | apply below_alloc | apply pw_below_drewN | apply below_drew1 | refine below_set ?_ GE142.out) | exact HB.out))) : w.heap.size ≤ gb148)); have n4_ := Aside0.mk ((by rw [hg]; exact (below_size (by repeat (first | (with_reducible first | exact HB.out | apply below_alloc | apply pw_below_drewN | apply below_drew1 | refine below_set ?_ GE142.out) | exact HB.out))) : w.heap.size ≤ gb148)); have n5_ := Aside0.mk ((by rw [hg]; exact Nat.ne_of_lt (blk_lt (g := gb142) (o := .cells #[.string a0_0, .string a0_1, .int .i64 a0_2, .bool a0_3] 60 (0, 0)) (pB BK142.out)) : gb142 ≠ gb148)); have n6_ := Aside0.mk ((by rw [hg]; exact Nat.ne_of_gt (blk_lt (g := gb142) (o := .cells #[.string a0_0, .string a0_1, .int .i64 a0_2, .bool a0_3] 60 (0, 0)) (pB BK142.out)) : gb148 ≠ gb142)); clear BK142; clear HB; have BK142 := n0_; have HB := n1_; have BK148 := n2_; have GW148 := n3_; have GE148 := n4_; have NB142_148 := n5_; have NB148_142 := n6_; clear n0_ n1_ n2_ n3_ n4_ n5_ n6_; clear hb hbox hg; have hnb94 := NB148_142.out; have hnc94 := NB142_148.out; have hcz95_0 : w93.cell? ⟨gb148, 0, none⟩ = some (.string (⟨#[]⟩ : ByteArray)) := (blk_cell BK148.out 0).trans rfl; have hcz95_1 : w93.cell? ⟨gb148, 1, none⟩ = some (.string (⟨#[]⟩ : ByteArray)) := (blk_cell BK148.out 1).trans rfl; have hcz95_2 : w93.cell? ⟨gb148, 2, none⟩ = some (.int .i64 0) := (blk_cell BK148.out 2).trans rfl; have hcz95_3 : w93.cell? ⟨gb148, 3, none⟩ = some (.bool false) := (blk_cell BK148.out 3).trans rfl; have hfz95_0 := blk_frozen BK148.out 0; have hfz95_1 := blk_frozen BK148.out 1; have hfz95_2 := blk_frozen BK148.out 2; have hfz95_3 := blk_frozen BK148.out 3) | ((with_reducible refine gate_callee (f := 39) rfl ?_); refine goesL_ (some 32) rfl rfl Try.func39 (by kernel_rfl) rfl #[.agg #[.string t144, .string t145, .int .i64 t146, .bool t147], .int .i64 a2] rfl (by (try simp only [List.map_toArray, List.map_cons, List.map_nil]); first | done | rfl | (simp only [List.length_drop, List.length_take]; rfl)) ?_; (with_reducible refine (paper_Crash.calls kj4 t144 t145 t146 t147 a2 t149 t150 t151 t152 _ A13.out).mono ?_); rintro e w96 ⟨rfl, hb⟩; refine ⟨_, rfl, ?_⟩; have n0_ := Aside0.mk (blk_below (g := gb142) (o := .cells #[.string a0_0, .string a0_1, .int .i64 a0_2, .bool a0_3] 60 (0, 0)) (by (with_reducible repeat (first | refine blk_drewN ?_ _ | refine blk_drew ?_ | refine blk_alloc ?_ _)); refine blk_far ?_ NB142_148.out _; (with_reducible repeat (first | refine blk_drewN ?_ _ | refine blk_drew ?_ | refine blk_alloc ?_ _)); refine blk_far ?_ NB142_148.out _; (with_reducible repeat (first | refine blk_drewN ?_ _ | refine blk_drew ?_ | refine blk_alloc ?_ _)); refine blk_far ?_ NB142_148.out _; (with_reducible repeat (first | refine blk_drewN ?_ _ | refine blk_drew ?_ | refine blk_alloc ?_ _)); refine blk_far ?_ NB142_148.out _; (with_reducible repeat (first | refine blk_drewN ?_ _ | refine blk_drew ?_ | refine blk_alloc ?_ _)); exact BK142.out) hb); have n1_ := Aside0.mk (blk_below (g := gb148) (o := .cells #[.string t144, .string t145, .int .i64 t146, .bool t147] 60 (0, 0)) (by (with_reducible repeat (first | refine blk_drewN ?_ _ | refine blk_drew ?_ | refine blk_alloc ?_ _)); refine blk_put (cs := #[.string t144, .string t145, .int .i64 t146, .bool false]) ?_ 3 _ rfl; (with_reducible repeat (first | refine blk_drewN ?_ _ | refine blk_drew ?_ | refine blk_alloc ?_ _)); refine blk_put (cs := #[.string t144, .string t145, .int .i64 0, .bool false]) ?_ 2 _ rfl; (with_reducible repeat (first | refine blk_drewN ?_ _ | refine blk_drew ?_ | refine blk_alloc ?_ _)); refine blk_put (cs := #[.string t144, .string (⟨#[]⟩ : ByteArray), .int .i64 0, .bool false]) ?_ 1 _ rfl; (with_reducible repeat (first | refine blk_drewN ?_ _ | refine blk_drew ?_ | refine blk_alloc ?_ _)); refine blk_put (cs := #[.string (⟨#[]⟩ : ByteArray), .string (⟨#[]⟩ : ByteArray), .int .i64 0, .bool false]) ?_ 0 _ rfl; (with_reducible repeat (first | refine blk_drewN ?_ _ | refine blk_drew ?_ | refine blk_alloc ?_ _)); exact BK148.out) hb); have n2_ := Aside0.mk (below_step (by repeat (first | (with_reducible first | exact HB.out | apply below_alloc | apply pw_below_drewN | apply below_drew1 | refine below_set ?_ GE142.out | refine below_set ?_ GE148.out) | exact HB.out)) hb); clear BK142; clear BK148; clear HB; have BK142 := n0_; have BK148 := n1_; have HB := n2_; clear n0_ n1_ n2_; (try clear hb); (try clear hb2); (try clear hk); (try clear hi)) | ((with_reducible refine gate_dst (N := 9) rfl ?_); (try (refine gate_guard (by rfl) ?_; dsimp only)); refine box_event ?hg (N := 9) ?hd (cs := #[.string (⟨#[]⟩ : ByteArray), .string (⟨#[]⟩ : ByteArray), .int .i64 0, .bool false]) (t := 60) ?hr ?_; (case hd => rfl); (case hg => rfl); (case hr => first | (go_simp; done) | (go_simp; rfl)); intro gb153 hg w97 hbox hb; have n0_ := Aside0.mk (blk_below (g := gb142) (o := .cells #[.string a0_0, .string a0_1, .int .i64 a0_2, .bool a0_3] 60 (0, 0)) (pB BK142.out) hb); have n1_ := Aside0.mk (blk_below (g := gb148) (o := .cells #[.string t144, .string t145, .int .i64 t146, .bool t147] 60 (0, 0)) (pB BK148.out) hb); have n2_ := Aside0.mk (below_step (by repeat (first | (with_reducible first | exact HB.out | apply below_alloc | apply pw_below_drewN | apply below_drew1 | refine below_set ?_ GE142.out | refine below_set ?_ GE148.out) | exact HB.out)) hb); have n3_ := Aside0.mk (hbox); have n4_ := Aside0.mk ((by rw [hg]; exact (below_size (by repeat (first | (with_reducible first | exact HB.out | apply below_alloc | apply pw_below_drewN | apply below_drew1 | refine below_set ?_ GE142.out | refine below_set ?_ GE148.out) | exact HB.out))) : w.heap.size ≤ gb153)); have n5_ := Aside0.mk ((by rw [hg]; exact (below_size (by repeat (first | (with_reducible first | exact HB.out | apply below_alloc | apply pw_below_drewN | apply below_drew1 | refine below_set ?_ GE142.out | refine below_set ?_ GE148.out) | exact HB.out))) : w.heap.size ≤ gb153)); have n6_ := Aside0.mk ((by rw [hg]; exact Nat.ne_of_lt (blk_lt (g := gb142) (o := .cells #[.string a0_0, .string a0_1, .int .i64 a0_2, .bool a0_3] 60 (0, 0)) (pB BK142.out)) : gb142 ≠ gb153)); have n7_ := Aside0.mk ((by rw [hg]; exact Nat.ne_of_gt (blk_lt (g := gb142) (o := .cells #[.string a0_0, .string a0_1, .int .i64 a0_2, .bool a0_3] 60 (0, 0)) (pB BK142.out)) : gb153 ≠ gb142)); have n8_ := Aside0.mk ((by rw [hg]; exact Nat.ne_of_lt (blk_lt (g := gb148) (o := .cells #[.string t144, .string t145, .int .i64 t146, .bool t147] 60 (0, 0)) (pB BK148.out)) : gb148 ≠ gb153)); have n9_ := Aside0.mk ((by rw [hg]; exact Nat.ne_of_gt (blk_lt (g := gb148) (o := .cells #[.string t144, .string t145, .int .i64 t146, .bool t147] 60 (0, 0)) (pB BK148.out)) : gb153 ≠ gb148)); clear BK142; clear BK148; clear HB; have BK142 := n0_; have BK148 := n1_; have HB := n2_; have BK153 := n3_; have GW153 := n4_; have GE153 := n5_; have NB142_153 := n6_; have NB153_142 := n7_; have NB148_153 := n8_; have NB153_148 := n9_; clear n0_ n1_ n2_ n3_ n4_ n5_ n6_ n7_ n8_ n9_; clear hb hbox hg; have hnb98 := NB153_142.out; have hnc98 := NB142_153.out; have hnb99 := NB153_148.out; have hnc99 := NB148_153.out; have hcz100_0 : w97.cell? ⟨gb153, 0, none⟩ = some (.string (⟨#[]⟩ : ByteArray)) := (blk_cell BK153.out 0).trans rfl; have hcz100_1 : w97.cell? ⟨gb153, 1, none⟩ = some (.string (⟨#[]⟩ : ByteArray)) := (blk_cell BK153.out 1).trans rfl; have hcz100_2 : w97.cell? ⟨gb153, 2, none⟩ = some (.int .i64 0) := (blk_cell BK153.out 2).trans rfl; have hcz100_3 : w97.cell? ⟨gb153, 3, none⟩ = some (.bool false) := (blk_cell BK153.out 3).trans rfl; have hfz100_0 := blk_frozen BK153.out 0; have hfz100_1 := blk_frozen BK153.out 1; have hfz100_2 := blk_frozen BK153.out 2; have hfz100_3 := blk_frozen BK153.out 3; have hcz101_0 : w97.cell? ⟨gb142, 0, none⟩ = some (.string a0_0) := (blk_cell BK142.out 0).trans rfl; have hcz101_1 : w97.cell? ⟨gb142, 1, none⟩ = some (.string a0_1) := (blk_cell BK142.out 1).trans rfl; have hcz101_2 : w97.cell? ⟨gb142, 2, none⟩ = some (.int .i64 a0_2) := (blk_cell BK142.out 2).trans rfl; have hcz101_3 : w97.cell? ⟨gb142, 3, none⟩ = some (.bool a0_3) := (blk_cell BK142.out 3).trans rfl; have hfz101_0 := blk_frozen BK142.out 0; have hfz101_1 := blk_frozen BK142.out 1; have hfz101_2 := blk_frozen BK142.out 2; have hfz101_3 := blk_frozen BK142.out 3) | ((with_reducible refine gate_callee (f := 38) rfl ?_); refine goesL_ (some 35) rfl rfl Try.func38 (by kernel_rfl) rfl #[.agg #[.string a0_0, .string a0_1, .int .i64 a0_2, .bool a0_3]] rfl (by (try simp only [List.map_toArray, List.map_cons, List.map_nil]); first | done | rfl | (simp only [List.length_drop, List.length_take]; rfl)) ?_; (with_reducible refine (paper_Sync.calls a0_0 a0_1 a0_2 a0_3 t154 t155 t156 t157 t158 _ A14.out).mono ?_); rintro e w102 ⟨rfl, hb⟩; refine ⟨_, rfl, ?_⟩; have n0_ := Aside0.mk (blk_below (g := gb142) (o := .cells #[.string a0_0, .string a0_1, .int .i64 a0_2, .bool a0_3] 60 (0, 0)) (by (with_reducible repeat (first | refine blk_drewN ?_ _ | refine blk_drew ?_ | refine blk_alloc ?_ _)); refine blk_far ?_ NB142_153.out _; (with_reducible repeat (first | refine blk_drewN ?_ _ | refine blk_drew ?_ | refine blk_alloc ?_ _)); refine blk_far ?_ NB142_153.out _; (with_reducible repeat (first | refine blk_drewN ?_ _ | refine blk_drew ?_ | refine blk_alloc ?_ _)); refine blk_far ?_ NB142_153.out _; (with_reducible repeat (first | refine blk_drewN ?_ _ | refine blk_drew ?_ | refine blk_alloc ?_ _)); refine blk_far ?_ NB142_153.out _; (with_reducible repeat (first | refine blk_drewN ?_ _ | refine blk_drew ?_ | refine blk_alloc ?_ _)); exact BK142.out) hb); have n1_ := Aside0.mk (blk_below (g := gb148) (o := .cells #[.string t144, .string t145, .int .i64 t146, .bool t147] 60 (0, 0)) (by (with_reducible repeat (first | refine blk_drewN ?_ _ | refine blk_drew ?_ | refine blk_alloc ?_ _)); refine blk_far ?_ NB148_153.out _; (with_reducible repeat (first | refine blk_drewN ?_ _ | refine blk_drew ?_ | refine blk_alloc ?_ _)); refine blk_far ?_ NB148_153.out _; (with_reducible repeat (first | refine blk_drewN ?_ _ | refine blk_drew ?_ | refine blk_alloc ?_ _)); refine blk_far ?_ NB148_153.out _; (with_reducible repeat (first | refine blk_drewN ?_ _ | refine blk_drew ?_ | refine blk_alloc ?_ _)); refine blk_far ?_ NB148_153.out _; (with_reducible repeat (first | refine blk_drewN ?_ _ | refine blk_drew ?_ | refine blk_alloc ?_ _)); exact BK148.out) hb); have n2_ := Aside0.mk (blk_below (g := gb153) (o := .cells #[.string t149, .string t150, .int .i64 t151, .bool t152] 60 (0, 0)) (by (with_reducible repeat (first | refine blk_drewN ?_ _ | refine blk_drew ?_ | refine blk_alloc ?_ _)); refine blk_put (cs := #[.string t149, .string t150, .int .i64 t151, .bool false]) ?_ 3 _ rfl; (with_reducible repeat (first | refine blk_drewN ?_ _ | refine blk_drew ?_ | refine blk_alloc ?_ _)); refine blk_put (cs := #[.string t149, .string t150, .int .i64 0, .bool false]) ?_ 2 _ rfl; (with_reducible repeat (first | refine blk_drewN ?_ _ | refine blk_drew ?_ | refine blk_alloc ?_ _)); refine blk_put (cs := #[.string t149, .string (⟨#[]⟩ : ByteArray), .int .i64 0, .bool false]) ?_ 1 _ rfl; (with_reducible repeat (first | refine blk_drewN ?_ _ | refine blk_drew ?_ | refine blk_alloc ?_ _)); refine blk_put (cs := #[.string (⟨#[]⟩ : ByteArray), .string (⟨#[]⟩ : ByteArray), .int .i64 0, .bool false]) ?_ 0 _ rfl; (with_reducible repeat (first | refine blk_drewN ?_ _ | refine blk_drew ?_ | refine blk_alloc ?_ _)); exact BK153.out) hb); have n3_ := Aside0.mk (below_step (by repeat (first | (with_reducible first | exact HB.out | apply below_alloc | apply pw_below_drewN | apply below_drew1 | refine below_set ?_ GE142.out | refine below_set ?_ GE148.out | refine below_set ?_ GE153.out) | exact HB.out)) hb); clear BK142; clear BK148; clear BK153; clear HB; have BK142 := n0_; have BK148 := n1_; have BK153 := n2_; have HB := n3_; clear n0_ n1_ n2_ n3_; (try clear hb); (try clear hb2); (try clear hk); (try clear hi)) | ((with_reducible refine gate_dst (N := 10) rfl ?_); (try (refine gate_guard (by rfl) ?_; dsimp only)); refine box_event ?hg (N := 10) ?hd (cs := #[.string (⟨#[]⟩ : ByteArray), .string (⟨#[]⟩ : ByteArray), .int .i64 0, .bool false]) (t := 60) ?hr ?_; (case hd => rfl); (case hg => rfl); (case hr => first | (go_simp; done) | (go_simp; rfl)); intro gb159 hg w103 hbox hb; have n0_ := Aside0.mk (blk_below (g := gb142) (o := .cells #[.string a0_0, .string a0_1, .int .i64 a0_2, .bool a0_3] 60 (0, 0)) (pB BK142.out) hb); have n1_ := Aside0.mk (blk_below (g := gb148) (o := .cells #[.string t144, .string t145, .int .i64 t146, .bool t147] 60 (0, 0)) (pB BK148.out) hb); have n2_ := Aside0.mk (blk_below (g := gb153) (o := .cells #[.string t149, .string t150, .int .i64 t151, .bool t152] 60 (0, 0)) (pB BK153.out) hb); have n3_ := Aside0.mk (below_step (by repeat (first | (with_reducible first | exact HB.out | apply below_alloc | apply pw_below_drewN | apply below_drew1 | refine below_set ?_ GE142.out | refine below_set ?_ GE148.out | refine below_set ?_ GE153.out) | exact HB.out)) hb); have n4_ := Aside0.mk (hbox); have n5_ := Aside0.mk ((by rw [hg]; exact (below_size (by repeat (first | (with_reducible first | exact HB.out | apply below_alloc | apply pw_below_drewN | apply below_drew1 | refine below_set ?_ GE142.out | refine below_set ?_ GE148.out | refine below_set ?_ GE153.out) | exact HB.out))) : w.heap.size ≤ gb159)); have n6_ := Aside0.mk ((by rw [hg]; exact (below_size (by repeat (first | (with_reducible first | exact HB.out | apply below_alloc | apply pw_below_drewN | apply below_drew1 | refine below_set ?_ GE142.out | refine below_set ?_ GE148.out | refine below_set ?_ GE153.out) | exact HB.out))) : w.heap.size ≤ gb159)); have n7_ := Aside0.mk ((by rw [hg]; exact Nat.ne_of_lt (blk_lt (g := gb142) (o := .cells #[.string a0_0, .string a0_1, .int .i64 a0_2, .bool a0_3] 60 (0, 0)) (pB BK142.out)) : gb142 ≠ gb159)); have n8_ := Aside0.mk ((by rw [hg]; exact Nat.ne_of_gt (blk_lt (g := gb142) (o := .cells #[.string a0_0, .string a0_1, .int .i64 a0_2, .bool a0_3] 60 (0, 0)) (pB BK142.out)) : gb159 ≠ gb142)); have n9_ := Aside0.mk ((by rw [hg]; exact Nat.ne_of_lt (blk_lt (g := gb148) (o := .cells #[.string t144, .string t145, .int .i64 t146, .bool t147] 60 (0, 0)) (pB BK148.out)) : gb148 ≠ gb159)); have n10_ := Aside0.mk ((by rw [hg]; exact Nat.ne_of_gt (blk_lt (g := gb148) (o := .cells #[.string t144, .string t145, .int .i64 t146, .bool t147] 60 (0, 0)) (pB BK148.out)) : gb159 ≠ gb148)); have n11_ := Aside0.mk ((by rw [hg]; exact Nat.ne_of_lt (blk_lt (g := gb153) (o := .cells #[.string t149, .string t150, .int .i64 t151, .bool t152] 60 (0, 0)) (pB BK153.out)) : gb153 ≠ gb159)); have n12_ := Aside0.mk ((by rw [hg]; exact Nat.ne_of_gt (blk_lt (g := gb153) (o := .cells #[.string t149, .string t150, .int .i64 t151, .bool t152] 60 (0, 0)) (pB BK153.out)) : gb159 ≠ gb153)); clear BK142; clear BK148; clear BK153; clear HB; have BK142 := n0_; have BK148 := n1_; have BK153 := n2_; have HB := n3_; have BK159 := n4_; have GW159 := n5_; have GE159 := n6_; have NB142_159 := n7_; have NB159_142 := n8_; have NB148_159 := n9_; have NB159_148 := n10_; have NB153_159 := n11_; have NB159_153 := n12_; clear n0_ n1_ n2_ n3_ n4_ n5_ n6_ n7_ n8_ n9_ n10_ n11_ n12_; clear hb hbox hg; have hnb104 := NB159_142.out; have hnc104 := NB142_159.out; have hnb105 := NB159_148.out; have hnc105 := NB148_159.out; have hnb106 := NB159_153.out; have hnc106 := NB153_159.out; have hcz107_0 : w103.cell? ⟨gb159, 0, none⟩ = some (.string (⟨#[]⟩ : ByteArray)) := (blk_cell BK159.out 0).trans rfl; have hcz107_1 : w103.cell? ⟨gb159, 1, none⟩ = some (.string (⟨#[]⟩ : ByteArray)) := (blk_cell BK159.out 1).trans rfl; have hcz107_2 : w103.cell? ⟨gb159, 2, none⟩ = some (.int .i64 0) := (blk_cell BK159.out 2).trans rfl; have hcz107_3 : w103.cell? ⟨gb159, 3, none⟩ = some (.bool false) := (blk_cell BK159.out 3).trans rfl; have hfz107_0 := blk_frozen BK159.out 0; have hfz107_1 := blk_frozen BK159.out 1; have hfz107_2 := blk_frozen BK159.out 2; have hfz107_3 := blk_frozen BK159.out 3) | ((with_reducible refine gate_callee (f := 38) rfl ?_); refine goesL_ (some 40) rfl rfl Try.func38 (by kernel_rfl) rfl #[.agg #[.string t154, .string t155, .int .i64 t156, .bool t157]] rfl (by (try simp only [List.map_toArray, List.map_cons, List.map_nil]); first | done | rfl | (simp only [List.length_drop, List.length_take]; rfl)) ?_; (with_reducible refine (paper_Sync.calls t154 t155 t156 t157 t160 t161 t162 t163 t164 _ A15.out).mono ?_); rintro e w108 ⟨rfl, hb⟩; refine ⟨_, rfl, ?_⟩; have n0_ := Aside0.mk (blk_below (g := gb142) (o := .cells #[.string a0_0, .string a0_1, .int .i64 a0_2, .bool a0_3] 60 (0, 0)) (by (with_reducible repeat (first | refine blk_drewN ?_ _ | refine blk_drew ?_ | refine blk_alloc ?_ _)); refine blk_far ?_ NB142_159.out _; (with_reducible repeat (first | refine blk_drewN ?_ _ | refine blk_drew ?_ | refine blk_alloc ?_ _)); refine blk_far ?_ NB142_159.out _; (with_reducible repeat (first | refine blk_drewN ?_ _ | refine blk_drew ?_ | refine blk_alloc ?_ _)); refine blk_far ?_ NB142_159.out _; (with_reducible repeat (first | refine blk_drewN ?_ _ | refine blk_drew ?_ | refine blk_alloc ?_ _)); refine blk_far ?_ NB142_159.out _; (with_reducible repeat (first | refine blk_drewN ?_ _ | refine blk_drew ?_ | refine blk_alloc ?_ _)); exact BK142.out) hb); have n1_ := Aside0.mk (blk_below (g := gb148) (o := .cells #[.string t144, .string t145, .int .i64 t146, .bool t147] 60 (0, 0)) (by (with_reducible repeat (first | refine blk_drewN ?_ _ | refine blk_drew ?_ | refine blk_alloc ?_ _)); refine blk_far ?_ NB148_159.out _; (with_reducible repeat (first | refine blk_drewN ?_ _ | refine blk_drew ?_ | refine blk_alloc ?_ _)); refine blk_far ?_ NB148_159.out _; (with_reducible repeat (first | refine blk_drewN ?_ _ | refine blk_drew ?_ | refine blk_alloc ?_ _)); refine blk_far ?_ NB148_159.out _; (with_reducible repeat (first | refine blk_drewN ?_ _ | refine blk_drew ?_ | refine blk_alloc ?_ _)); refine blk_far ?_ NB148_159.out _; (with_reducible repeat (first | refine blk_drewN ?_ _ | refine blk_drew ?_ | refine blk_alloc ?_ _)); exact BK148.out) hb); have n2_ := Aside0.mk (blk_below (g := gb153) (o := .cells #[.string t149, .string t150, .int .i64 t151, .bool t152] 60 (0, 0)) (by (with_reducible repeat (first | refine blk_drewN ?_ _ | refine blk_drew ?_ | refine blk_alloc ?_ _)); refine blk_far ?_ NB153_159.out _; (with_reducible repeat (first | refine blk_drewN ?_ _ | refine blk_drew ?_ | refine blk_alloc ?_ _)); refine blk_far ?_ NB153_159.out _; (with_reducible repeat (first | refine blk_drewN ?_ _ | refine blk_drew ?_ | refine blk_alloc ?_ _)); refine blk_far ?_ NB153_159.out _; (with_reducible repeat (first | refine blk_drewN ?_ _ | refine blk_drew ?_ | refine blk_alloc ?_ _)); refine blk_far ?_ NB153_159.out _; (with_reducible repeat (first | refine blk_drewN ?_ _ | refine blk_drew ?_ | refine blk_alloc ?_ _)); exact BK153.out) hb); have n3_ := Aside0.mk (blk_below (g := gb159) (o := .cells #[.string t154, .string t155, .int .i64 t156, .bool t157] 60 (0, 0)) (by (with_reducible repeat (first | refine blk_drewN ?_ _ | refine blk_drew ?_ | refine blk_alloc ?_ _)); refine blk_put (cs := #[.string t154, .string t155, .int .i64 t156, .bool false]) ?_ 3 _ rfl; (with_reducible repeat (first | refine blk_drewN ?_ _ | refine blk_drew ?_ | refine blk_alloc ?_ _)); refine blk_put (cs := #[.string t154, .string t155, .int .i64 0, .bool false]) ?_ 2 _ rfl; (with_reducible repeat (first | refine blk_drewN ?_ _ | refine blk_drew ?_ | refine blk_alloc ?_ _)); refine blk_put (cs := #[.string t154, .string (⟨#[]⟩ : ByteArray), .int .i64 0, .bool false]) ?_ 1 _ rfl; (with_reducible repeat (first | refine blk_drewN ?_ _ | refine blk_drew ?_ | refine blk_alloc ?_ _)); refine blk_put (cs := #[.string (⟨#[]⟩ : ByteArray), .string (⟨#[]⟩ : ByteArray), .int .i64 0, .bool false]) ?_ 0 _ rfl; (with_reducible repeat (first | refine blk_drewN ?_ _ | refine blk_drew ?_ | refine blk_alloc ?_ _)); exact BK159.out) hb); have n4_ := Aside0.mk (below_step (by repeat (first | (with_reducible first | exact HB.out | apply below_alloc | apply pw_below_drewN | apply below_drew1 | refine below_set ?_ GE142.out | refine below_set ?_ GE148.out | refine below_set ?_ GE153.out | refine below_set ?_ GE159.out) | exact HB.out)) hb); clear BK142; clear BK148; clear BK153; clear BK159; clear HB; have BK142 := n0_; have BK148 := n1_; have BK153 := n2_; have BK159 := n3_; have HB := n4_; clear n0_ n1_ n2_ n3_ n4_; (try clear hb); (try clear hb2); (try clear hk); (try clear hi)) | ((with_reducible refine gate_dst (N := 12) rfl ?_); (try (refine gate_guard (by rfl) ?_; dsimp only)); refine box_event ?hg (N := 12) ?hd (cs := #[.string (⟨#[]⟩ : ByteArray), .string (⟨#[]⟩ : ByteArray), .int .i64 0, .bool false]) (t := 60) ?hr ?_; (case hd => rfl); (case hg => rfl); (case hr => first | (go_simp; done) | (go_simp; rfl)); intro gb165 hg w109 hbox hb; have n0_ := Aside0.mk (blk_below (g := gb142) (o := .cells #[.string a0_0, .string a0_1, .int .i64 a0_2, .bool a0_3] 60 (0, 0)) (pB BK142.out) hb); have n1_ := Aside0.mk (blk_below (g := gb148) (o := .cells #[.string t144, .string t145, .int .i64 t146, .bool t147] 60 (0, 0)) (pB BK148.out) hb); have n2_ := Aside0.mk (blk_below (g := gb153) (o := .cells #[.string t149, .string t150, .int .i64 t151, .bool t152] 60 (0, 0)) (pB BK153.out) hb); have n3_ := Aside0.mk (blk_below (g := gb159) (o := .cells #[.string t154, .string t155, .int .i64 t156, .bool t157] 60 (0, 0)) (pB BK159.out) hb); have n4_ := Aside0.mk (below_step (by repeat (first | (with_reducible first | exact HB.out | apply below_alloc | apply pw_below_drewN | apply below_drew1 | refine below_set ?_ GE142.out | refine below_set ?_ GE148.out | refine below_set ?_ GE153.out | refine below_set ?_ GE159.out) | exact HB.out)) hb); have n5_ := Aside0.mk (hbox); have n6_ := Aside0.mk ((by rw [hg]; exact (below_size (by repeat (first | (with_reducible first | exact HB.out | apply below_alloc | apply pw_below_drewN | apply below_drew1 | refine below_set ?_ GE142.out | refine below_set ?_ GE148.out | refine below_set ?_ GE153.out | refine below_set ?_ GE159.out) | exact HB.out))) : w.heap.size ≤ gb165)); have n7_ := Aside0.mk ((by rw [hg]; exact (below_size (by repeat (first | (with_reducible first | exact HB.out | apply below_alloc | apply pw_below_drewN | apply below_drew1 | refine below_set ?_ GE142.out | refine below_set ?_ GE148.out | refine below_set ?_ GE153.out | refine below_set ?_ GE159.out) | exact HB.out))) : w.heap.size ≤ gb165)); have n8_ := Aside0.mk ((by rw [hg]; exact Nat.ne_of_lt (blk_lt (g := gb142) (o := .cells #[.string a0_0, .string a0_1, .int .i64 a0_2, .bool a0_3] 60 (0, 0)) (pB BK142.out)) : gb142 ≠ gb165)); have n9_ := Aside0.mk ((by rw [hg]; exact Nat.ne_of_gt (blk_lt (g := gb142) (o := .cells #[.string a0_0, .string a0_1, .int .i64 a0_2, .bool a0_3] 60 (0, 0)) (pB BK142.out)) : gb165 ≠ gb142)); have n10_ := Aside0.mk ((by rw [hg]; exact Nat.ne_of_lt (blk_lt (g := gb148) (o := .cells #[.string t144, .string t145, .int .i64 t146, .bool t147] 60 (0, 0)) (pB BK148.out)) : gb148 ≠ gb165)); have n11_ := Aside0.mk ((by rw [hg]; exact Nat.ne_of_gt (blk_lt (g := gb148) (o := .cells #[.string t144, .string t145, .int .i64 t146, .bool t147] 60 (0, 0)) (pB BK148.out)) : gb165 ≠ gb148)); have n12_ := Aside0.mk ((by rw [hg]; exact Nat.ne_of_lt (blk_lt (g := gb153) (o := .cells #[.string t149, .string t150, .int .i64 t151, .bool t152] 60 (0, 0)) (pB BK153.out)) : gb153 ≠ gb165)); have n13_ := Aside0.mk ((by rw [hg]; exact Nat.ne_of_gt (blk_lt (g := gb153) (o := .cells #[.string t149, .string t150, .int .i64 t151, .bool t152] 60 (0, 0)) (pB BK153.out)) : gb165 ≠ gb153)); have n14_ := Aside0.mk ((by rw [hg]; exact Nat.ne_of_lt (blk_lt (g := gb159) (o := .cells #[.string t154, .string t155, .int .i64 t156, .bool t157] 60 (0, 0)) (pB BK159.out)) : gb159 ≠ gb165)); have n15_ := Aside0.mk ((by rw [hg]; exact Nat.ne_of_gt (blk_lt (g := gb159) (o := .cells #[.string t154, .string t155, .int .i64 t156, .bool t157] 60 (0, 0)) (pB BK159.out)) : gb165 ≠ gb159)); clear BK142; clear BK148; clear BK153; clear BK159; clear HB; have BK142 := n0_; have BK148 := n1_; have BK153 := n2_; have BK159 := n3_; have HB := n4_; have BK165 := n5_; have GW165 := n6_; have GE165 := n7_; have NB142_165 := n8_; have NB165_142 := n9_; have NB148_165 := n10_; have NB165_148 := n11_; have NB153_165 := n12_; have NB165_153 := n13_; have NB159_165 := n14_; have NB165_159 := n15_; clear n0_ n1_ n2_ n3_ n4_ n5_ n6_ n7_ n8_ n9_ n10_ n11_ n12_ n13_ n14_ n15_; clear hb hbox hg; have hnb110 := NB165_142.out; have hnc110 := NB142_165.out; have hnb111 := NB165_148.out; have hnc111 := NB148_165.out; have hnb112 := NB165_153.out; have hnc112 := NB153_165.out; have hnb113 := NB165_159.out; have hnc113 := NB159_165.out; have hcz114_0 : w109.cell? ⟨gb165, 0, none⟩ = some (.string (⟨#[]⟩ : ByteArray)) := (blk_cell BK165.out 0).trans rfl; have hcz114_1 : w109.cell? ⟨gb165, 1, none⟩ = some (.string (⟨#[]⟩ : ByteArray)) := (blk_cell BK165.out 1).trans rfl; have hcz114_2 : w109.cell? ⟨gb165, 2, none⟩ = some (.int .i64 0) := (blk_cell BK165.out 2).trans rfl; have hcz114_3 : w109.cell? ⟨gb165, 3, none⟩ = some (.bool false) := (blk_cell BK165.out 3).trans rfl; have hfz114_0 := blk_frozen BK165.out 0; have hfz114_1 := blk_frozen BK165.out 1; have hfz114_2 := blk_frozen BK165.out 2; have hfz114_3 := blk_frozen BK165.out 3))
       have n0_ : Aside0 (((((w109.setCell ⟨gb165, 0, none⟩ (.string t160)).setCell ⟨gb165, 1, none⟩ (.string t161)).setCell ⟨gb165, 2, none⟩ (.int .i64 t162)).setCell ⟨gb165, 3, none⟩ (.bool t163)).heap[gb142]? = some (.cells #[.string a0_0, .string a0_1, .int .i64 a0_2, .bool a0_3] 60 (0, 0))) := ⟨by (with_reducible repeat (first | refine blk_drewN ?_ _ | refine blk_drew ?_ | refine blk_alloc ?_ _)); refine blk_far ?_ NB142_165.out _; (with_reducible repeat (first | refine blk_drewN ?_ _ | refine blk_drew ?_ | refine blk_alloc ?_ _)); refine blk_far ?_ NB142_165.out _; (with_reducible repeat (first | refine blk_drewN ?_ _ | refine blk_drew ?_ | refine blk_alloc ?_ _)); refine blk_far ?_ NB142_165.out _; (with_reducible repeat (first | refine blk_drewN ?_ _ | refine blk_drew ?_ | refine blk_alloc ?_ _)); refine blk_far ?_ NB142_165.out _; (with_reducible repeat (first | refine blk_drewN ?_ _ | refine blk_drew ?_ | refine blk_alloc ?_ _)); exact BK142.out⟩
       have n1_ : Aside0 (((((w109.setCell ⟨gb165, 0, none⟩ (.string t160)).setCell ⟨gb165, 1, none⟩ (.string t161)).setCell ⟨gb165, 2, none⟩ (.int .i64 t162)).setCell ⟨gb165, 3, none⟩ (.bool t163)).heap[gb148]? = some (.cells #[.string t144, .string t145, .int .i64 t146, .bool t147] 60 (0, 0))) := ⟨by (with_reducible repeat (first | refine blk_drewN ?_ _ | refine blk_drew ?_ | refine blk_alloc ?_ _)); refine blk_far ?_ NB148_165.out _; (with_reducible repeat (first | refine blk_drewN ?_ _ | refine blk_drew ?_ | refine blk_alloc ?_ _)); refine blk_far ?_ NB148_165.out _; (with_reducible repeat (first | refine blk_drewN ?_ _ | refine blk_drew ?_ | refine blk_alloc ?_ _)); refine blk_far ?_ NB148_165.out _; (with_reducible repeat (first | refine blk_drewN ?_ _ | refine blk_drew ?_ | refine blk_alloc ?_ _)); refine blk_far ?_ NB148_165.out _; (with_reducible repeat (first | refine blk_drewN ?_ _ | refine blk_drew ?_ | refine blk_alloc ?_ _)); exact BK148.out⟩
       have n2_ : Aside0 (((((w109.setCell ⟨gb165, 0, none⟩ (.string t160)).setCell ⟨gb165, 1, none⟩ (.string t161)).setCell ⟨gb165, 2, none⟩ (.int .i64 t162)).setCell ⟨gb165, 3, none⟩ (.bool t163)).heap[gb153]? = some (.cells #[.string t149, .string t150, .int .i64 t151, .bool t152] 60 (0, 0))) := ⟨by (with_reducible repeat (first | refine blk_drewN ?_ _ | refine blk_drew ?_ | refine blk_alloc ?_ _)); refine blk_far ?_ NB153_165.out _; (with_reducible repeat (first | refine blk_drewN ?_ _ | refine blk_drew ?_ | refine blk_alloc ?_ _)); refine blk_far ?_ NB153_165.out _; (with_reducible repeat (first | refine blk_drewN ?_ _ | refine blk_drew ?_ | refine blk_alloc ?_ _)); refine blk_far ?_ NB153_165.out _; (with_reducible repeat (first | refine blk_drewN ?_ _ | refine blk_drew ?_ | refine blk_alloc ?_ _)); refine blk_far ?_ NB153_165.out _; (with_reducible repeat (first | refine blk_drewN ?_ _ | refine blk_drew ?_ | refine blk_alloc ?_ _)); exact BK153.out⟩
       have n3_ : Aside0 (((((w109.setCell ⟨gb165, 0, none⟩ (.string t160)).setCell ⟨gb165, 1, none⟩ (.string t161)).setCell ⟨gb165, 2, none⟩ (.int .i64 t162)).setCell ⟨gb165, 3, none⟩ (.bool t163)).heap[gb159]? = some (.cells #[.string t154, .string t155, .int .i64 t156, .bool t157] 60 (0, 0))) := ⟨by (with_reducible repeat (first | refine blk_drewN ?_ _ | refine blk_drew ?_ | refine blk_alloc ?_ _)); refine blk_far ?_ NB159_165.out _; (with_reducible repeat (first | refine blk_drewN ?_ _ | refine blk_drew ?_ | refine blk_alloc ?_ _)); refine blk_far ?_ NB159_165.out _; (with_reducible repeat (first | refine blk_drewN ?_ _ | refine blk_drew ?_ | refine blk_alloc ?_ _)); refine blk_far ?_ NB159_165.out _; (with_reducible repeat (first | refine blk_drewN ?_ _ | refine blk_drew ?_ | refine blk_alloc ?_ _)); refine blk_far ?_ NB159_165.out _; (with_reducible repeat (first | refine blk_drewN ?_ _ | refine blk_drew ?_ | refine blk_alloc ?_ _)); exact BK159.out⟩
       have n4_ : Aside0 (((((w109.setCell ⟨gb165, 0, none⟩ (.string t160)).setCell ⟨gb165, 1, none⟩ (.string t161)).setCell ⟨gb165, 2, none⟩ (.int .i64 t162)).setCell ⟨gb165, 3, none⟩ (.bool t163)).heap[gb165]? = some (.cells #[.string t160, .string t161, .int .i64 t162, .bool t163] 60 (0, 0))) := ⟨by (with_reducible repeat (first | refine blk_drewN ?_ _ | refine blk_drew ?_ | refine blk_alloc ?_ _)); refine blk_put (cs := #[.string t160, .string t161, .int .i64 t162, .bool false]) ?_ 3 _ rfl; (with_reducible repeat (first | refine blk_drewN ?_ _ | refine blk_drew ?_ | refine blk_alloc ?_ _)); refine blk_put (cs := #[.string t160, .string t161, .int .i64 0, .bool false]) ?_ 2 _ rfl; (with_reducible repeat (first | refine blk_drewN ?_ _ | refine blk_drew ?_ | refine blk_alloc ?_ _)); refine blk_put (cs := #[.string t160, .string (⟨#[]⟩ : ByteArray), .int .i64 0, .bool false]) ?_ 1 _ rfl; (with_reducible repeat (first | refine blk_drewN ?_ _ | refine blk_drew ?_ | refine blk_alloc ?_ _)); refine blk_put (cs := #[.string (⟨#[]⟩ : ByteArray), .string (⟨#[]⟩ : ByteArray), .int .i64 0, .bool false]) ?_ 0 _ rfl; (with_reducible repeat (first | refine blk_drewN ?_ _ | refine blk_drew ?_ | refine blk_alloc ?_ _)); exact BK165.out⟩
       have n5_ : Aside0 (Below w.heap.size w ((((w109.setCell ⟨gb165, 0, none⟩ (.string t160)).setCell ⟨gb165, 1, none⟩ (.string t161)).setCell ⟨gb165, 2, none⟩ (.int .i64 t162)).setCell ⟨gb165, 3, none⟩ (.bool t163))) := ⟨by repeat (first | (with_reducible first | exact HB.out | apply below_alloc | apply pw_below_drewN | apply below_drew1 | refine below_set ?_ GE142.out | refine below_set ?_ GE148.out | refine below_set ?_ GE153.out | refine below_set ?_ GE159.out | refine below_set ?_ GE165.out) | exact HB.out)⟩
       (try clear BK142)
       (try clear BK148)
       (try clear BK153)
       (try clear BK159)
       (try clear BK165)
       (try clear HB)
       generalize ((((w109.setCell ⟨gb165, 0, none⟩ (.string t160)).setCell ⟨gb165, 1, none⟩ (.string t161)).setCell ⟨gb165, 2, none⟩ (.int .i64 t162)).setCell ⟨gb165, 3, none⟩ (.bool t163)) = w115 at n0_ n1_ n2_ n3_ n4_ n5_ ⊢
       have BK142 := n0_
       have BK148 := n1_
       have BK153 := n2_
       have BK159 := n3_
       have BK165 := n4_
       have HB := n5_
       clear n0_ n1_ n2_ n3_ n4_ n5_
       have n0_ := Aside0.mk (blk_drew BK142.out)
       have n1_ := Aside0.mk (blk_drew BK148.out)
       have n2_ := Aside0.mk (blk_drew BK153.out)
       have n3_ := Aside0.mk (blk_drew BK159.out)
       have n4_ := Aside0.mk (blk_drew BK165.out)
       have n5_ := Aside0.mk (below_drew1 HB.out)
       clear BK142
       clear BK148
       clear BK153
       clear BK159
       clear BK165
       clear HB
       have BK142 := n0_
       have BK148 := n1_
       have BK153 := n2_
       have BK159 := n3_
       have BK165 := n4_
       have HB := n5_
       clear n0_ n1_ n2_ n3_ n4_ n5_
       refine start_ (n := 6) (S := fun w' => w'.cell? ⟨gb142, 0, none⟩ = some (.string a0_0) ∧ w'.cell? ⟨gb142, 1, none⟩ = some (.string a0_1) ∧ w'.cell? ⟨gb142, 2, none⟩ = some (.int .i64 a0_2) ∧ w'.cell? ⟨gb142, 3, none⟩ = some (.bool a0_3) ∧ w'.cell? ⟨gb159, 0, none⟩ = some (.string t154) ∧ w'.cell? ⟨gb159, 1, none⟩ = some (.string t155) ∧ w'.cell? ⟨gb159, 2, none⟩ = some (.int .i64 t156) ∧ w'.cell? ⟨gb159, 3, none⟩ = some (.bool t157)) (ds := []) #[false, false, false, false, false, false] (by kernel_rfl) rfl rfl ⟨(blk_cell BK142.out 0).trans rfl, (blk_cell BK142.out 1).trans rfl, (blk_cell BK142.out 2).trans rfl, (blk_cell BK142.out 3).trans rfl, (blk_cell BK159.out 0).trans rfl, (blk_cell BK159.out 1).trans rfl, (blk_cell BK159.out 2).trans rfl, (blk_cell BK159.out 3).trans rfl⟩ (fun hHeld => ?_)
       generalize w115.drew = w116 at BK142 BK148 BK153 BK159 BK165 HB hHeld ⊢
       refine take_ (i := 0) (N := some 43) (v := ?_) (a' := ?_) #[true, false, false, false, false, false] rfl rfl (by kernel_rfl) (fun _ _ _ h => h) (Or.inl ⟨by rfl, ?_⟩) hHeld ?_ ?_
       rotate_left
       ·
        rintro w' ⟨s0, s1, s2, s3, s4, s5, s6, s7⟩
        go_simp
        with_reducible rfl
       rotate_left
       ·
        simp only [Act.put, List.setIfInBounds_toArray, List.set_cons_zero, List.set_cons_succ, i64_w, i32_w]
        rfl
       refine take_ (i := 2) (N := some 45) (v := ?_) (a' := ?_) #[true, false, true, false, false, false] rfl rfl (by kernel_rfl) (fun _ _ _ h => h) (Or.inl ⟨by rfl, ?_⟩) hHeld ?_ ?_
       rotate_left
       ·
        rintro w' ⟨s0, s1, s2, s3, s4, s5, s6, s7⟩
        go_simp
        with_reducible rfl
       rotate_left
       ·
        simp only [Act.put, List.setIfInBounds_toArray, List.set_cons_zero, List.set_cons_succ, i64_w, i32_w]
        rfl
       refine one_ (i := 1) (N := some 44) #[true, true, true, false, false, false] rfl rfl (by kernel_rfl) (by decide) (fun K hK => ?_)
       refine goes_ Try.func40 (by kernel_rfl) rfl #[.agg #[.string a0_0, .string a0_1, .int .i64 a0_2, .bool a0_3]] (by rfl) rfl rfl (by (try simp only [List.map_toArray, List.map_cons, List.map_nil]); first | done | rfl | (simp only [List.length_drop, List.length_take]; rfl)) ?_
       with_reducible refine (paper_Records.calls kj4 a0_0 a0_1 a0_2 a0_3 t166 _ A16.out).mono ?_
       rintro e w117 ⟨v167, rfl, ho0, hb⟩
       refine ⟨_, rfl, ?_⟩
       have n0_ := Aside0.mk (Kd.R_lower ho0 (below_size (by repeat (first | (with_reducible first | exact HB.out | apply below_alloc | apply pw_below_drewN | apply below_drew1 | refine below_set ?_ GE142.out | refine below_set ?_ GE148.out | refine below_set ?_ GE153.out | refine below_set ?_ GE159.out | refine below_set ?_ GE165.out) | exact HB.out))))
       have n1_ := Aside0.mk (blk_below (g := gb142) (o := .cells #[.string a0_0, .string a0_1, .int .i64 a0_2, .bool a0_3] 60 (0, 0)) (pB BK142.out) hb)
       have n2_ := Aside0.mk (blk_below (g := gb148) (o := .cells #[.string t144, .string t145, .int .i64 t146, .bool t147] 60 (0, 0)) (pB BK148.out) hb)
       have n3_ := Aside0.mk (blk_below (g := gb153) (o := .cells #[.string t149, .string t150, .int .i64 t151, .bool t152] 60 (0, 0)) (pB BK153.out) hb)
       have n4_ := Aside0.mk (blk_below (g := gb159) (o := .cells #[.string t154, .string t155, .int .i64 t156, .bool t157] 60 (0, 0)) (pB BK159.out) hb)
       have n5_ := Aside0.mk (blk_below (g := gb165) (o := .cells #[.string t160, .string t161, .int .i64 t162, .bool t163] 60 (0, 0)) (pB BK165.out) hb)
       have n6_ := Aside0.mk (below_step (by repeat (first | (with_reducible first | exact HB.out | apply below_alloc | apply pw_below_drewN | apply below_drew1 | refine below_set ?_ GE142.out | refine below_set ?_ GE148.out | refine below_set ?_ GE153.out | refine below_set ?_ GE159.out | refine below_set ?_ GE165.out) | exact HB.out)) hb)
       clear BK142
       clear BK148
       clear BK153
       clear BK159
       clear BK165
       clear HB
       have HO168 := n0_
       have BK142 := n1_
       have BK148 := n2_
       have BK153 := n3_
       have BK159 := n4_
       have BK165 := n5_
       have HB := n6_
       clear n0_ n1_ n2_ n3_ n4_ n5_ n6_
       (try clear hb)
       (try clear hb2)
       (try clear hk)
       (try clear hi)
       (try clear ho0)
       refine hK.out _ _ ⟨(blk_cell BK142.out 0).trans rfl, (blk_cell BK142.out 1).trans rfl, (blk_cell BK142.out 2).trans rfl, (blk_cell BK142.out 3).trans rfl, (blk_cell BK159.out 0).trans rfl, (blk_cell BK159.out 1).trans rfl, (blk_cell BK159.out 2).trans rfl, (blk_cell BK159.out 3).trans rfl⟩ (fun hHeld => ?_)
       clear hK K
       refine norm_ (a' := ?_) ?_ ?_
       rotate_left
       ·
        show Act.put _ (some 44) _ = _
        simp only [Act.put, List.setIfInBounds_toArray, List.set_cons_zero, List.set_cons_succ, i64_w, i32_w]
        rfl
       refine one_ (i := 3) (N := some 46) #[true, true, true, true, false, false] rfl rfl (by kernel_rfl) (by decide) (fun K hK => ?_)
       refine goes_ Try.func40 (by kernel_rfl) rfl #[.agg #[.string t154, .string t155, .int .i64 t156, .bool t157]] (by rfl) rfl rfl (by (try simp only [List.map_toArray, List.map_cons, List.map_nil]); first | done | rfl | (simp only [List.length_drop, List.length_take]; rfl)) ?_
       with_reducible refine (paper_Records.calls kj4 t154 t155 t156 t157 t169 _ A17.out).mono ?_
       rintro e w118 ⟨v170, rfl, ho0, hb⟩
       refine ⟨_, rfl, ?_⟩
       have n0_ := Aside0.mk (Kd.R_elder' (Kd.pR HO168.out) (Kd.R_base ho0) hb)
       have n1_ := Aside0.mk (Kd.R_lower (Kd.R_new' ho0 (Kd.R_lt (Kd.pR HO168.out))) (below_size (by repeat (first | (with_reducible first | exact HB.out | apply below_alloc | apply pw_below_drewN | apply below_drew1 | refine below_set ?_ GE142.out | refine below_set ?_ GE148.out | refine below_set ?_ GE153.out | refine below_set ?_ GE159.out | refine below_set ?_ GE165.out) | exact HB.out))))
       have n2_ := Aside0.mk (blk_below (g := gb142) (o := .cells #[.string a0_0, .string a0_1, .int .i64 a0_2, .bool a0_3] 60 (0, 0)) (pB BK142.out) hb)
       have n3_ := Aside0.mk (blk_below (g := gb148) (o := .cells #[.string t144, .string t145, .int .i64 t146, .bool t147] 60 (0, 0)) (pB BK148.out) hb)
       have n4_ := Aside0.mk (blk_below (g := gb153) (o := .cells #[.string t149, .string t150, .int .i64 t151, .bool t152] 60 (0, 0)) (pB BK153.out) hb)
       have n5_ := Aside0.mk (blk_below (g := gb159) (o := .cells #[.string t154, .string t155, .int .i64 t156, .bool t157] 60 (0, 0)) (pB BK159.out) hb)
       have n6_ := Aside0.mk (blk_below (g := gb165) (o := .cells #[.string t160, .string t161, .int .i64 t162, .bool t163] 60 (0, 0)) (pB BK165.out) hb)
       have n7_ := Aside0.mk (below_step (by repeat (first | (with_reducible first | exact HB.out | apply below_alloc | apply pw_below_drewN | apply below_drew1 | refine below_set ?_ GE142.out | refine below_set ?_ GE148.out | refine below_set ?_ GE153.out | refine below_set ?_ GE159.out | refine below_set ?_ GE165.out) | exact HB.out)) hb)
       clear HO168
       clear BK142
       clear BK148
       clear BK153
       clear BK159
       clear BK165
       clear HB
       have HO168 := n0_
       have HO171 := n1_
       have BK142 := n2_
       have BK148 := n3_
       have BK153 := n4_
       have BK159 := n5_
       have BK165 := n6_
       have HB := n7_
       clear n0_ n1_ n2_ n3_ n4_ n5_ n6_ n7_
       (try clear hb)
       (try clear hb2)
       (try clear hk)
       (try clear hi)
       (try clear ho0)
       obtain ⟨Ao119, co119, eo119⟩ := Kd.R_slice HO168.out
       (first | subst eo119 | (injection eo119 with f1_ f2_ f3_; have f4_ := f1_.symm; have f5_ := f3_.symm; clear f1_ f2_ f3_; subst f4_; subst f5_))
       obtain ⟨Ao120, co120, eo120⟩ := Kd.R_slice HO171.out
       (first | subst eo120 | (injection eo120 with f1_ f2_ f3_; have f4_ := f1_.symm; have f5_ := f3_.symm; clear f1_ f2_ f3_; subst f4_; subst f5_))
       refine hK.out _ _ ⟨(blk_cell BK142.out 0).trans rfl, (blk_cell BK142.out 1).trans rfl, (blk_cell BK142.out 2).trans rfl, (blk_cell BK142.out 3).trans rfl, (blk_cell BK159.out 0).trans rfl, (blk_cell BK159.out 1).trans rfl, (blk_cell BK159.out 2).trans rfl, (blk_cell BK159.out 3).trans rfl⟩ (fun hHeld => ?_)
       clear hK K
       refine norm_ (a' := ?_) ?_ ?_
       rotate_left
       ·
        show Act.put _ (some 46) _ = _
        simp only [Act.put, List.setIfInBounds_toArray, List.set_cons_zero, List.set_cons_succ, i64_w, i32_w]
        rfl
       refine one_ (i := 4) (N := some 47) #[true, true, true, true, true, false] rfl rfl (by kernel_rfl) (by decide) (fun K hK => ?_)
       refine goes_ Try.func28 (by kernel_rfl) rfl #[.slice Ao119 t166.length co119, .slice Ao120 t169.length co120] (by rfl) rfl rfl (by (try simp only [List.map_toArray, List.map_cons, List.map_nil]); first | done | rfl | (simp only [List.length_drop, List.length_take]; rfl)) ?_
       with_reducible refine (selvedgeref01_Same.calls kj4 _ _ t166 _ _ t169 t172 _ ?side1 ?side2 ?side3 ?side4 A18.out).mono ?_
       (case side1 => repeat (first | exact (Kd.R_reads' HO168.out).2.2 | (with_reducible refine Kd.C_alloc ?_ _) | (with_reducible refine Kd.C_drewN ?_ _) | (with_reducible refine Kd.C_drew ?_)))
       (case side2 => exact (Kd.R_reads' HO168.out).2.1)
       (case side3 => repeat (first | exact (Kd.R_reads' HO171.out).2.2 | (with_reducible refine Kd.C_alloc ?_ _) | (with_reducible refine Kd.C_drewN ?_ _) | (with_reducible refine Kd.C_drew ?_)))
       (case side4 => exact (Kd.R_reads' HO171.out).2.1)
       rintro e w' ⟨rfl, ⟨nd, rfl⟩⟩
       refine ⟨_, rfl, ?_⟩
       refine hK.out _ _ ⟨(blk_cell BK142.out 0).trans rfl, (blk_cell BK142.out 1).trans rfl, (blk_cell BK142.out 2).trans rfl, (blk_cell BK142.out 3).trans rfl, (blk_cell BK159.out 0).trans rfl, (blk_cell BK159.out 1).trans rfl, (blk_cell BK159.out 2).trans rfl, (blk_cell BK159.out 3).trans rfl⟩ (fun hHeld => ?_)
       clear hK K
       refine norm_ (a' := ?_) ?_ ?_
       rotate_left
       ·
        show Act.put _ (some 47) _ = _
        simp only [Act.put, List.setIfInBounds_toArray, List.set_cons_zero, List.set_cons_succ, i64_w, i32_w]
        rfl
       refine pure_ (i := 5) (N := some 14) (v := ?_) (a' := ?_) #[true, true, true, true, true, true] rfl rfl (by kernel_rfl) (fun _ _ _ h => h) (Or.inl ⟨by rfl, ?_⟩) ?_ ?_
       rotate_left
       ·
        intro w'
        go_simp
        with_reducible rfl
       rotate_left
       ·
        simp only [Act.put, List.setIfInBounds_toArray, List.set_cons_zero, List.set_cons_succ, i64_w, i32_w]
        rfl
       refine done_ (by kernel_rfl) ?_
       have hcz121_0 : w118.cell? ⟨gb148, 0, none⟩ = some (.string t144) := (blk_cell BK148.out 0).trans rfl
       have hcz121_1 : w118.cell? ⟨gb148, 1, none⟩ = some (.string t145) := (blk_cell BK148.out 1).trans rfl
       have hcz121_2 : w118.cell? ⟨gb148, 2, none⟩ = some (.int .i64 t146) := (blk_cell BK148.out 2).trans rfl
       have hcz121_3 : w118.cell? ⟨gb148, 3, none⟩ = some (.bool t147) := (blk_cell BK148.out 3).trans rfl
       have hfz121_0 := blk_frozen BK148.out 0
       have hfz121_1 := blk_frozen BK148.out 1
       have hfz121_2 := blk_frozen BK148.out 2
       have hfz121_3 := blk_frozen BK148.out 3
       have hcz122_0 : w118.cell? ⟨gb153, 0, none⟩ = some (.string t149) := (blk_cell BK153.out 0).trans rfl
       have hcz122_1 : w118.cell? ⟨gb153, 1, none⟩ = some (.string t150) := (blk_cell BK153.out 1).trans rfl
       have hcz122_2 : w118.cell? ⟨gb153, 2, none⟩ = some (.int .i64 t151) := (blk_cell BK153.out 2).trans rfl
       have hcz122_3 : w118.cell? ⟨gb153, 3, none⟩ = some (.bool t152) := (blk_cell BK153.out 3).trans rfl
       have hfz122_0 := blk_frozen BK153.out 0
       have hfz122_1 := blk_frozen BK153.out 1
       have hfz122_2 := blk_frozen BK153.out 2
       have hfz122_3 := blk_frozen BK153.out 3
       try go_wp2
       go_ret
       exact ⟨by first | rfl | (simp [errW_none, errW_some] <;> rfl) | (simp [*, errW_none, errW_some] <;> rfl), by repeat (first | (with_reducible first | exact HB.out | apply below_alloc | apply pw_below_drewN | apply below_drew1 | refine below_set ?_ GE142.out | refine below_set ?_ GE148.out | refine below_set ?_ GE153.out | refine below_set ?_ GE159.out | refine below_set ?_ GE165.out) | exact HB.out)⟩
     ·
      rw [if_neg c20] at H
      have c20b0 : (t144.toList == t149.toList && (t145.toList == t150.toList && (t146 == t151 && (t147 == t152)))) = false := by simpa using c20
      (try (have c20b1 : decide (t144.toList = t149.toList && (t145.toList == t150.toList && (t146 == t151 && (t147 == t152)))) = false := by simpa using c20))
      (try (have c20b2 : (t144.toList == t149.toList && (t145.toList == t150.toList && (t146 == t151 && (t147 == t152)))) = false := by simpa using c20))
      (try (have c20b3 : ¬ (t144.toList = t149.toList && (t145.toList == t150.toList && (t146 == t151 && (t147 == t152)))) := by simpa using c20))
      clear c20
      obtain rfl := Option.some.inj H
      have hcz123_0 : wc.cell? ⟨gb142, 0, none⟩ = some (.string a0_0) := (blk_cell BK142.out 0).trans rfl
      have hcz123_1 : wc.cell? ⟨gb142, 1, none⟩ = some (.string a0_1) := (blk_cell BK142.out 1).trans rfl
      have hcz123_2 : wc.cell? ⟨gb142, 2, none⟩ = some (.int .i64 a0_2) := (blk_cell BK142.out 2).trans rfl
      have hcz123_3 : wc.cell? ⟨gb142, 3, none⟩ = some (.bool a0_3) := (blk_cell BK142.out 3).trans rfl
      have hfz123_0 := blk_frozen BK142.out 0
      have hfz123_1 := blk_frozen BK142.out 1
      have hfz123_2 := blk_frozen BK142.out 2
      have hfz123_3 := blk_frozen BK142.out 3
      try go_wp2_with (first | ((with_reducible refine gate_callee (f := 39) rfl ?_); refine goesL_ (some 29) rfl rfl Try.func39 (by kernel_rfl) rfl #[.agg #[.string a0_0, .string a0_1, .int .i64 a0_2, .bool a0_3], .int .i64 a1] rfl (by (try simp only [List.map_toArray, List.map_cons, List.map_nil]); first | done | rfl | (simp only [List.length_drop, List.length_take]; rfl)) ?_; (with_reducible refine (paper_Crash.calls kj4 a0_0 a0_1 a0_2 a0_3 a1 t144 t145 t146 t147 _ A12.out).mono ?_); rintro e w124 ⟨rfl, hb⟩; refine ⟨_, rfl, ?_⟩; have n0_ := Aside0.mk (blk_below (g := gb142) (o := .cells #[.string a0_0, .string a0_1, .int .i64 a0_2, .bool a0_3] 60 (0, 0)) (pB BK142.out) hb); have n1_ := Aside0.mk (below_step (by repeat (first | (with_reducible first | exact HB.out | apply below_alloc | apply pw_below_drewN | apply below_drew1 | refine below_set ?_ GE142.out) | exact HB.out)) hb); clear BK142; clear HB; have BK142 := n0_; have HB := n1_; clear n0_ n1_; (try clear hb); (try clear hb2); (try clear hk); (try clear hi)) | ((with_reducible refine gate_dst (N := 8) rfl ?_); (try (refine gate_guard (by rfl) ?_; dsimp only)); refine box_event ?hg (N := 8) ?hd (cs := #[.string (⟨#[]⟩ : ByteArray), .string (⟨#[]⟩ : ByteArray), .int .i64 0, .bool false]) (t := 60) ?hr ?_; (case hd => rfl); (case hg => rfl); (case hr => first | (go_simp; done) | (go_simp; rfl)); intro gb148 hg w125 hbox hb; have n0_ := Aside0.mk (blk_below (g := gb142) (o := .cells #[.string a0_0, .string a0_1, .int .i64 a0_2, .bool a0_3] 60 (0, 0)) (pB BK142.out) hb); have n1_ := Aside0.mk (below_step (by repeat (first | (with_reducible first | exact HB.out | apply below_alloc | apply pw_below_drewN | apply below_drew1 | refine below_set ?_ GE142.out) | exact HB.out)) hb); have n2_ := Aside0.mk (hbox); have n3_ := Aside0.mk ((by rw [hg]; exact (below_size (by repeat (first | (with_reducible first | exact HB.out | apply below_alloc | apply pw_below_drewN | apply below_drew1 | refine below_set ?_ GE142.out) | exact HB.out))) : w.heap.size ≤ gb148)); have n4_ := Aside0.mk ((by rw [hg]; exact (below_size (by repeat (first | (with_reducible first | exact HB.out | apply below_alloc | apply pw_below_drewN | apply below_drew1 | refine below_set ?_ GE142.out) | exact HB.out))) : w.heap.size ≤ gb148)); have n5_ := Aside0.mk ((by rw [hg]; exact Nat.ne_of_lt (blk_lt (g := gb142) (o := .cells #[.string a0_0, .string a0_1, .int .i64 a0_2, .bool a0_3] 60 (0, 0)) (pB BK142.out)) : gb142 ≠ gb148)); have n6_ := Aside0.mk ((by rw [hg]; exact Nat.ne_of_gt (blk_lt (g := gb142) (o := .cells #[.string a0_0, .string a0_1, .int .i64 a0_2, .bool a0_3] 60 (0, 0)) (pB BK142.out)) : gb148 ≠ gb142)); clear BK142; clear HB; have BK142 := n0_; have HB := n1_; have BK148 := n2_; have GW148 := n3_; have GE148 := n4_; have NB142_148 := n5_; have NB148_142 := n6_; clear n0_ n1_ n2_ n3_ n4_ n5_ n6_; clear hb hbox hg; have hnb126 := NB148_142.out; have hnc126 := NB142_148.out; have hcz127_0 : w125.cell? ⟨gb148, 0, none⟩ = some (.string (⟨#[]⟩ : ByteArray)) := (blk_cell BK148.out 0).trans rfl; have hcz127_1 : w125.cell? ⟨gb148, 1, none⟩ = some (.string (⟨#[]⟩ : ByteArray)) := (blk_cell BK148.out 1).trans rfl; have hcz127_2 : w125.cell? ⟨gb148, 2, none⟩ = some (.int .i64 0) := (blk_cell BK148.out 2).trans rfl; have hcz127_3 : w125.cell? ⟨gb148, 3, none⟩ = some (.bool false) := (blk_cell BK148.out 3).trans rfl; have hfz127_0 := blk_frozen BK148.out 0; have hfz127_1 := blk_frozen BK148.out 1; have hfz127_2 := blk_frozen BK148.out 2; have hfz127_3 := blk_frozen BK148.out 3) | ((with_reducible refine gate_callee (f := 39) rfl ?_); refine goesL_ (some 32) rfl rfl Try.func39 (by kernel_rfl) rfl #[.agg #[.string t144, .string t145, .int .i64 t146, .bool t147], .int .i64 a2] rfl (by (try simp only [List.map_toArray, List.map_cons, List.map_nil]); first | done | rfl | (simp only [List.length_drop, List.length_take]; rfl)) ?_; (with_reducible refine (paper_Crash.calls kj4 t144 t145 t146 t147 a2 t149 t150 t151 t152 _ A13.out).mono ?_); rintro e w128 ⟨rfl, hb⟩; refine ⟨_, rfl, ?_⟩; have n0_ := Aside0.mk (blk_below (g := gb142) (o := .cells #[.string a0_0, .string a0_1, .int .i64 a0_2, .bool a0_3] 60 (0, 0)) (by (with_reducible repeat (first | refine blk_drewN ?_ _ | refine blk_drew ?_ | refine blk_alloc ?_ _)); refine blk_far ?_ NB142_148.out _; (with_reducible repeat (first | refine blk_drewN ?_ _ | refine blk_drew ?_ | refine blk_alloc ?_ _)); refine blk_far ?_ NB142_148.out _; (with_reducible repeat (first | refine blk_drewN ?_ _ | refine blk_drew ?_ | refine blk_alloc ?_ _)); refine blk_far ?_ NB142_148.out _; (with_reducible repeat (first | refine blk_drewN ?_ _ | refine blk_drew ?_ | refine blk_alloc ?_ _)); refine blk_far ?_ NB142_148.out _; (with_reducible repeat (first | refine blk_drewN ?_ _ | refine blk_drew ?_ | refine blk_alloc ?_ _)); exact BK142.out) hb); have n1_ := Aside0.mk (blk_below (g := gb148) (o := .cells #[.string t144, .string t145, .int .i64 t146, .bool t147] 60 (0, 0)) (by (with_reducible repeat (first | refine blk_drewN ?_ _ | refine blk_drew ?_ | refine blk_alloc ?_ _)); refine blk_put (cs := #[.string t144, .string t145, .int .i64 t146, .bool false]) ?_ 3 _ rfl; (with_reducible repeat (first | refine blk_drewN ?_ _ | refine blk_drew ?_ | refine blk_alloc ?_ _)); refine blk_put (cs := #[.string t144, .string t145, .int .i64 0, .bool false]) ?_ 2 _ rfl; (with_reducible repeat (first | refine blk_drewN ?_ _ | refine blk_drew ?_ | refine blk_alloc ?_ _)); refine blk_put (cs := #[.string t144, .string (⟨#[]⟩ : ByteArray), .int .i64 0, .bool false]) ?_ 1 _ rfl; (with_reducible repeat (first | refine blk_drewN ?_ _ | refine blk_drew ?_ | refine blk_alloc ?_ _)); refine blk_put (cs := #[.string (⟨#[]⟩ : ByteArray), .string (⟨#[]⟩ : ByteArray), .int .i64 0, .bool false]) ?_ 0 _ rfl; (with_reducible repeat (first | refine blk_drewN ?_ _ | refine blk_drew ?_ | refine blk_alloc ?_ _)); exact BK148.out) hb); have n2_ := Aside0.mk (below_step (by repeat (first | (with_reducible first | exact HB.out | apply below_alloc | apply pw_below_drewN | apply below_drew1 | refine below_set ?_ GE142.out | refine below_set ?_ GE148.out) | exact HB.out)) hb); clear BK142; clear BK148; clear HB; have BK142 := n0_; have BK148 := n1_; have HB := n2_; clear n0_ n1_ n2_; (try clear hb); (try clear hb2); (try clear hk); (try clear hi)) | ((with_reducible refine gate_dst (N := 9) rfl ?_); (try (refine gate_guard (by rfl) ?_; dsimp only)); refine box_event ?hg (N := 9) ?hd (cs := #[.string (⟨#[]⟩ : ByteArray), .string (⟨#[]⟩ : ByteArray), .int .i64 0, .bool false]) (t := 60) ?hr ?_; (case hd => rfl); (case hg => rfl); (case hr => first | (go_simp; done) | (go_simp; rfl)); intro gb153 hg w129 hbox hb; have n0_ := Aside0.mk (blk_below (g := gb142) (o := .cells #[.string a0_0, .string a0_1, .int .i64 a0_2, .bool a0_3] 60 (0, 0)) (pB BK142.out) hb); have n1_ := Aside0.mk (blk_below (g := gb148) (o := .cells #[.string t144, .string t145, .int .i64 t146, .bool t147] 60 (0, 0)) (pB BK148.out) hb); have n2_ := Aside0.mk (below_step (by repeat (first | (with_reducible first | exact HB.out | apply below_alloc | apply pw_below_drewN | apply below_drew1 | refine below_set ?_ GE142.out | refine below_set ?_ GE148.out) | exact HB.out)) hb); have n3_ := Aside0.mk (hbox); have n4_ := Aside0.mk ((by rw [hg]; exact (below_size (by repeat (first | (with_reducible first | exact HB.out | apply below_alloc | apply pw_below_drewN | apply below_drew1 | refine below_set ?_ GE142.out | refine below_set ?_ GE148.out) | exact HB.out))) : w.heap.size ≤ gb153)); have n5_ := Aside0.mk ((by rw [hg]; exact (below_size (by repeat (first | (with_reducible first | exact HB.out | apply below_alloc | apply pw_below_drewN | apply below_drew1 | refine below_set ?_ GE142.out | refine below_set ?_ GE148.out) | exact HB.out))) : w.heap.size ≤ gb153)); have n6_ := Aside0.mk ((by rw [hg]; exact Nat.ne_of_lt (blk_lt (g := gb142) (o := .cells #[.string a0_0, .string a0_1, .int .i64 a0_2, .bool a0_3] 60 (0, 0)) (pB BK142.out)) : gb142 ≠ gb153)); have n7_ := Aside0.mk ((by rw [hg]; exact Nat.ne_of_gt (blk_lt (g := gb142) (o := .cells #[.string a0_0, .string a0_1, .int .i64 a0_2, .bool a0_3] 60 (0, 0)) (pB BK142.out)) : gb153 ≠ gb142)); have n8_ := Aside0.mk ((by rw [hg]; exact Nat.ne_of_lt (blk_lt (g := gb148) (o := .cells #[.string t144, .string t145, .int .i64 t146, .bool t147] 60 (0, 0)) (pB BK148.out)) : gb148 ≠ gb153)); have n9_ := Aside0.mk ((by rw [hg]; exact Nat.ne_of_gt (blk_lt (g := gb148) (o := .cells #[.string t144, .string t145, .int .i64 t146, .bool t147] 60 (0, 0)) (pB BK148.out)) : gb153 ≠ gb148)); clear BK142; clear BK148; clear HB; have BK142 := n0_; have BK148 := n1_; have HB := n2_; have BK153 := n3_; have GW153 := n4_; have GE153 := n5_; have NB142_153 := n6_; have NB153_142 := n7_; have NB148_153 := n8_; have NB153_148 := n9_; clear n0_ n1_ n2_ n3_ n4_ n5_ n6_ n7_ n8_ n9_; clear hb hbox hg; have hnb130 := NB153_142.out; have hnc130 := NB142_153.out; have hnb131 := NB153_148.out; have hnc131 := NB148_153.out; have hcz132_0 : w129.cell? ⟨gb153, 0, none⟩ = some (.string (⟨#[]⟩ : ByteArray)) := (blk_cell BK153.out 0).trans rfl; have hcz132_1 : w129.cell? ⟨gb153, 1, none⟩ = some (.string (⟨#[]⟩ : ByteArray)) := (blk_cell BK153.out 1).trans rfl; have hcz132_2 : w129.cell? ⟨gb153, 2, none⟩ = some (.int .i64 0) := (blk_cell BK153.out 2).trans rfl; have hcz132_3 : w129.cell? ⟨gb153, 3, none⟩ = some (.bool false) := (blk_cell BK153.out 3).trans rfl; have hfz132_0 := blk_frozen BK153.out 0; have hfz132_1 := blk_frozen BK153.out 1; have hfz132_2 := blk_frozen BK153.out 2; have hfz132_3 := blk_frozen BK153.out 3; have hcz133_0 : w129.cell? ⟨gb142, 0, none⟩ = some (.string a0_0) := (blk_cell BK142.out 0).trans rfl; have hcz133_1 : w129.cell? ⟨gb142, 1, none⟩ = some (.string a0_1) := (blk_cell BK142.out 1).trans rfl; have hcz133_2 : w129.cell? ⟨gb142, 2, none⟩ = some (.int .i64 a0_2) := (blk_cell BK142.out 2).trans rfl; have hcz133_3 : w129.cell? ⟨gb142, 3, none⟩ = some (.bool a0_3) := (blk_cell BK142.out 3).trans rfl; have hfz133_0 := blk_frozen BK142.out 0; have hfz133_1 := blk_frozen BK142.out 1; have hfz133_2 := blk_frozen BK142.out 2; have hfz133_3 := blk_frozen BK142.out 3) | ((with_reducible refine gate_callee (f := 38) rfl ?_); refine goesL_ (some 35) rfl rfl Try.func38 (by kernel_rfl) rfl #[.agg #[.string a0_0, .string a0_1, .int .i64 a0_2, .bool a0_3]] rfl (by (try simp only [List.map_toArray, List.map_cons, List.map_nil]); first | done | rfl | (simp only [List.length_drop, List.length_take]; rfl)) ?_; (with_reducible refine (paper_Sync.calls a0_0 a0_1 a0_2 a0_3 t154 t155 t156 t157 t158 _ A14.out).mono ?_); rintro e w134 ⟨rfl, hb⟩; refine ⟨_, rfl, ?_⟩; have n0_ := Aside0.mk (blk_below (g := gb142) (o := .cells #[.string a0_0, .string a0_1, .int .i64 a0_2, .bool a0_3] 60 (0, 0)) (by (with_reducible repeat (first | refine blk_drewN ?_ _ | refine blk_drew ?_ | refine blk_alloc ?_ _)); refine blk_far ?_ NB142_153.out _; (with_reducible repeat (first | refine blk_drewN ?_ _ | refine blk_drew ?_ | refine blk_alloc ?_ _)); refine blk_far ?_ NB142_153.out _; (with_reducible repeat (first | refine blk_drewN ?_ _ | refine blk_drew ?_ | refine blk_alloc ?_ _)); refine blk_far ?_ NB142_153.out _; (with_reducible repeat (first | refine blk_drewN ?_ _ | refine blk_drew ?_ | refine blk_alloc ?_ _)); refine blk_far ?_ NB142_153.out _; (with_reducible repeat (first | refine blk_drewN ?_ _ | refine blk_drew ?_ | refine blk_alloc ?_ _)); exact BK142.out) hb); have n1_ := Aside0.mk (blk_below (g := gb148) (o := .cells #[.string t144, .string t145, .int .i64 t146, .bool t147] 60 (0, 0)) (by (with_reducible repeat (first | refine blk_drewN ?_ _ | refine blk_drew ?_ | refine blk_alloc ?_ _)); refine blk_far ?_ NB148_153.out _; (with_reducible repeat (first | refine blk_drewN ?_ _ | refine blk_drew ?_ | refine blk_alloc ?_ _)); refine blk_far ?_ NB148_153.out _; (with_reducible repeat (first | refine blk_drewN ?_ _ | refine blk_drew ?_ | refine blk_alloc ?_ _)); refine blk_far ?_ NB148_153.out _; (with_reducible repeat (first | refine blk_drewN ?_ _ | refine blk_drew ?_ | refine blk_alloc ?_ _)); refine blk_far ?_ NB148_153.out _; (with_reducible repeat (first | refine blk_drewN ?_ _ | refine blk_drew ?_ | refine blk_alloc ?_ _)); exact BK148.out) hb); have n2_ := Aside0.mk (blk_below (g := gb153) (o := .cells #[.string t149, .string t150, .int .i64 t151, .bool t152] 60 (0, 0)) (by (with_reducible repeat (first | refine blk_drewN ?_ _ | refine blk_drew ?_ | refine blk_alloc ?_ _)); refine blk_put (cs := #[.string t149, .string t150, .int .i64 t151, .bool false]) ?_ 3 _ rfl; (with_reducible repeat (first | refine blk_drewN ?_ _ | refine blk_drew ?_ | refine blk_alloc ?_ _)); refine blk_put (cs := #[.string t149, .string t150, .int .i64 0, .bool false]) ?_ 2 _ rfl; (with_reducible repeat (first | refine blk_drewN ?_ _ | refine blk_drew ?_ | refine blk_alloc ?_ _)); refine blk_put (cs := #[.string t149, .string (⟨#[]⟩ : ByteArray), .int .i64 0, .bool false]) ?_ 1 _ rfl; (with_reducible repeat (first | refine blk_drewN ?_ _ | refine blk_drew ?_ | refine blk_alloc ?_ _)); refine blk_put (cs := #[.string (⟨#[]⟩ : ByteArray), .string (⟨#[]⟩ : ByteArray), .int .i64 0, .bool false]) ?_ 0 _ rfl; (with_reducible repeat (first | refine blk_drewN ?_ _ | refine blk_drew ?_ | refine blk_alloc ?_ _)); exact BK153.out) hb); have n3_ := Aside0.mk (below_step (by repeat (first | (with_reducible first | exact HB.out | apply below_alloc | apply pw_below_drewN | apply below_drew1 | refine below_set ?_ GE142.out | refine below_set ?_ GE148.out | refine below_set ?_ GE153.out) | exact HB.out)) hb); clear BK142; clear BK148; clear BK153; clear HB; have BK142 := n0_; have BK148 := n1_; have BK153 := n2_; have HB := n3_; clear n0_ n1_ n2_ n3_; (try clear hb); (try clear hb2); (try clear hk); (try clear hi)) | ((with_reducible refine gate_dst (N := 10) rfl ?_); (try (refine gate_guard (by rfl) ?_; dsimp only)); refine box_event ?hg (N := 10) ?hd (cs := #[.string (⟨#[]⟩ : ByteArray), .string (⟨#[]⟩ : ByteArray), .int .i64 0, .bool false]) (t := 60) ?hr ?_; (case hd => rfl); (case hg => rfl); (case hr => first | (go_simp; done) | (go_simp; rfl)); intro gb159 hg w135 hbox hb; have n0_ := Aside0.mk (blk_below (g := gb142) (o := .cells #[.string a0_0, .string a0_1, .int .i64 a0_2, .bool a0_3] 60 (0, 0)) (pB BK142.out) hb); have n1_ := Aside0.mk (blk_below (g := gb148) (o := .cells #[.string t144, .string t145, .int .i64 t146, .bool t147] 60 (0, 0)) (pB BK148.out) hb); have n2_ := Aside0.mk (blk_below (g := gb153) (o := .cells #[.string t149, .string t150, .int .i64 t151, .bool t152] 60 (0, 0)) (pB BK153.out) hb); have n3_ := Aside0.mk (below_step (by repeat (first | (with_reducible first | exact HB.out | apply below_alloc | apply pw_below_drewN | apply below_drew1 | refine below_set ?_ GE142.out | refine below_set ?_ GE148.out | refine below_set ?_ GE153.out) | exact HB.out)) hb); have n4_ := Aside0.mk (hbox); have n5_ := Aside0.mk ((by rw [hg]; exact (below_size (by repeat (first | (with_reducible first | exact HB.out | apply below_alloc | apply pw_below_drewN | apply below_drew1 | refine below_set ?_ GE142.out | refine below_set ?_ GE148.out | refine below_set ?_ GE153.out) | exact HB.out))) : w.heap.size ≤ gb159)); have n6_ := Aside0.mk ((by rw [hg]; exact (below_size (by repeat (first | (with_reducible first | exact HB.out | apply below_alloc | apply pw_below_drewN | apply below_drew1 | refine below_set ?_ GE142.out | refine below_set ?_ GE148.out | refine below_set ?_ GE153.out) | exact HB.out))) : w.heap.size ≤ gb159)); have n7_ := Aside0.mk ((by rw [hg]; exact Nat.ne_of_lt (blk_lt (g := gb142) (o := .cells #[.string a0_0, .string a0_1, .int .i64 a0_2, .bool a0_3] 60 (0, 0)) (pB BK142.out)) : gb142 ≠ gb159)); have n8_ := Aside0.mk ((by rw [hg]; exact Nat.ne_of_gt (blk_lt (g := gb142) (o := .cells #[.string a0_0, .string a0_1, .int .i64 a0_2, .bool a0_3] 60 (0, 0)) (pB BK142.out)) : gb159 ≠ gb142)); have n9_ := Aside0.mk ((by rw [hg]; exact Nat.ne_of_lt (blk_lt (g := gb148) (o := .cells #[.string t144, .string t145, .int .i64 t146, .bool t147] 60 (0, 0)) (pB BK148.out)) : gb148 ≠ gb159)); have n10_ := Aside0.mk ((by rw [hg]; exact Nat.ne_of_gt (blk_lt (g := gb148) (o := .cells #[.string t144, .string t145, .int .i64 t146, .bool t147] 60 (0, 0)) (pB BK148.out)) : gb159 ≠ gb148)); have n11_ := Aside0.mk ((by rw [hg]; exact Nat.ne_of_lt (blk_lt (g := gb153) (o := .cells #[.string t149, .string t150, .int .i64 t151, .bool t152] 60 (0, 0)) (pB BK153.out)) : gb153 ≠ gb159)); have n12_ := Aside0.mk ((by rw [hg]; exact Nat.ne_of_gt (blk_lt (g := gb153) (o := .cells #[.string t149, .string t150, .int .i64 t151, .bool t152] 60 (0, 0)) (pB BK153.out)) : gb159 ≠ gb153)); clear BK142; clear BK148; clear BK153; clear HB; have BK142 := n0_; have BK148 := n1_; have BK153 := n2_; have HB := n3_; have BK159 := n4_; have GW159 := n5_; have GE159 := n6_; have NB142_159 := n7_; have NB159_142 := n8_; have NB148_159 := n9_; have NB159_148 := n10_; have NB153_159 := n11_; have NB159_153 := n12_; clear n0_ n1_ n2_ n3_ n4_ n5_ n6_ n7_ n8_ n9_ n10_ n11_ n12_; clear hb hbox hg; have hnb136 := NB159_142.out; have hnc136 := NB142_159.out; have hnb137 := NB159_148.out; have hnc137 := NB148_159.out; have hnb138 := NB159_153.out; have hnc138 := NB153_159.out; have hcz139_0 : w135.cell? ⟨gb159, 0, none⟩ = some (.string (⟨#[]⟩ : ByteArray)) := (blk_cell BK159.out 0).trans rfl; have hcz139_1 : w135.cell? ⟨gb159, 1, none⟩ = some (.string (⟨#[]⟩ : ByteArray)) := (blk_cell BK159.out 1).trans rfl; have hcz139_2 : w135.cell? ⟨gb159, 2, none⟩ = some (.int .i64 0) := (blk_cell BK159.out 2).trans rfl; have hcz139_3 : w135.cell? ⟨gb159, 3, none⟩ = some (.bool false) := (blk_cell BK159.out 3).trans rfl; have hfz139_0 := blk_frozen BK159.out 0; have hfz139_1 := blk_frozen BK159.out 1; have hfz139_2 := blk_frozen BK159.out 2; have hfz139_3 := blk_frozen BK159.out 3) | ((with_reducible refine gate_callee (f := 38) rfl ?_); refine goesL_ (some 40) rfl rfl Try.func38 (by kernel_rfl) rfl #[.agg #[.string t154, .string t155, .int .i64 t156, .bool t157]] rfl (by (try simp only [List.map_toArray, List.map_cons, List.map_nil]); first | done | rfl | (simp only [List.length_drop, List.length_take]; rfl)) ?_; (with_reducible refine (paper_Sync.calls t154 t155 t156 t157 t160 t161 t162 t163 t164 _ A15.out).mono ?_); rintro e w140 ⟨rfl, hb⟩; refine ⟨_, rfl, ?_⟩; have n0_ := Aside0.mk (blk_below (g := gb142) (o := .cells #[.string a0_0, .string a0_1, .int .i64 a0_2, .bool a0_3] 60 (0, 0)) (by (with_reducible repeat (first | refine blk_drewN ?_ _ | refine blk_drew ?_ | refine blk_alloc ?_ _)); refine blk_far ?_ NB142_159.out _; (with_reducible repeat (first | refine blk_drewN ?_ _ | refine blk_drew ?_ | refine blk_alloc ?_ _)); refine blk_far ?_ NB142_159.out _; (with_reducible repeat (first | refine blk_drewN ?_ _ | refine blk_drew ?_ | refine blk_alloc ?_ _)); refine blk_far ?_ NB142_159.out _; (with_reducible repeat (first | refine blk_drewN ?_ _ | refine blk_drew ?_ | refine blk_alloc ?_ _)); refine blk_far ?_ NB142_159.out _; (with_reducible repeat (first | refine blk_drewN ?_ _ | refine blk_drew ?_ | refine blk_alloc ?_ _)); exact BK142.out) hb); have n1_ := Aside0.mk (blk_below (g := gb148) (o := .cells #[.string t144, .string t145, .int .i64 t146, .bool t147] 60 (0, 0)) (by (with_reducible repeat (first | refine blk_drewN ?_ _ | refine blk_drew ?_ | refine blk_alloc ?_ _)); refine blk_far ?_ NB148_159.out _; (with_reducible repeat (first | refine blk_drewN ?_ _ | refine blk_drew ?_ | refine blk_alloc ?_ _)); refine blk_far ?_ NB148_159.out _; (with_reducible repeat (first | refine blk_drewN ?_ _ | refine blk_drew ?_ | refine blk_alloc ?_ _)); refine blk_far ?_ NB148_159.out _; (with_reducible repeat (first | refine blk_drewN ?_ _ | refine blk_drew ?_ | refine blk_alloc ?_ _)); refine blk_far ?_ NB148_159.out _; (with_reducible repeat (first | refine blk_drewN ?_ _ | refine blk_drew ?_ | refine blk_alloc ?_ _)); exact BK148.out) hb); have n2_ := Aside0.mk (blk_below (g := gb153) (o := .cells #[.string t149, .string t150, .int .i64 t151, .bool t152] 60 (0, 0)) (by (with_reducible repeat (first | refine blk_drewN ?_ _ | refine blk_drew ?_ | refine blk_alloc ?_ _)); refine blk_far ?_ NB153_159.out _; (with_reducible repeat (first | refine blk_drewN ?_ _ | refine blk_drew ?_ | refine blk_alloc ?_ _)); refine blk_far ?_ NB153_159.out _; (with_reducible repeat (first | refine blk_drewN ?_ _ | refine blk_drew ?_ | refine blk_alloc ?_ _)); refine blk_far ?_ NB153_159.out _; (with_reducible repeat (first | refine blk_drewN ?_ _ | refine blk_drew ?_ | refine blk_alloc ?_ _)); refine blk_far ?_ NB153_159.out _; (with_reducible repeat (first | refine blk_drewN ?_ _ | refine blk_drew ?_ | refine blk_alloc ?_ _)); exact BK153.out) hb); have n3_ := Aside0.mk (blk_below (g := gb159) (o := .cells #[.string t154, .string t155, .int .i64 t156, .bool t157] 60 (0, 0)) (by (with_reducible repeat (first | refine blk_drewN ?_ _ | refine blk_drew ?_ | refine blk_alloc ?_ _)); refine blk_put (cs := #[.string t154, .string t155, .int .i64 t156, .bool false]) ?_ 3 _ rfl; (with_reducible repeat (first | refine blk_drewN ?_ _ | refine blk_drew ?_ | refine blk_alloc ?_ _)); refine blk_put (cs := #[.string t154, .string t155, .int .i64 0, .bool false]) ?_ 2 _ rfl; (with_reducible repeat (first | refine blk_drewN ?_ _ | refine blk_drew ?_ | refine blk_alloc ?_ _)); refine blk_put (cs := #[.string t154, .string (⟨#[]⟩ : ByteArray), .int .i64 0, .bool false]) ?_ 1 _ rfl; (with_reducible repeat (first | refine blk_drewN ?_ _ | refine blk_drew ?_ | refine blk_alloc ?_ _)); refine blk_put (cs := #[.string (⟨#[]⟩ : ByteArray), .string (⟨#[]⟩ : ByteArray), .int .i64 0, .bool false]) ?_ 0 _ rfl; (with_reducible repeat (first | refine blk_drewN ?_ _ | refine blk_drew ?_ | refine blk_alloc ?_ _)); exact BK159.out) hb); have n4_ := Aside0.mk (below_step (by repeat (first | (with_reducible first | exact HB.out | apply below_alloc | apply pw_below_drewN | apply below_drew1 | refine below_set ?_ GE142.out | refine below_set ?_ GE148.out | refine below_set ?_ GE153.out | refine below_set ?_ GE159.out) | exact HB.out)) hb); clear BK142; clear BK148; clear BK153; clear BK159; clear HB; have BK142 := n0_; have BK148 := n1_; have BK153 := n2_; have BK159 := n3_; have HB := n4_; clear n0_ n1_ n2_ n3_ n4_; (try clear hb); (try clear hb2); (try clear hk); (try clear hi)) | ((with_reducible refine gate_dst (N := 12) rfl ?_); (try (refine gate_guard (by rfl) ?_; dsimp only)); refine box_event ?hg (N := 12) ?hd (cs := #[.string (⟨#[]⟩ : ByteArray), .string (⟨#[]⟩ : ByteArray), .int .i64 0, .bool false]) (t := 60) ?hr ?_; (case hd => rfl); (case hg => rfl); (case hr => first | (go_simp; done) | (go_simp; rfl)); intro gb165 hg w141 hbox hb; have n0_ := Aside0.mk (blk_below (g := gb142) (o := .cells #[.string a0_0, .string a0_1, .int .i64 a0_2, .bool a0_3] 60 (0, 0)) (pB BK142.out) hb); have n1_ := Aside0.mk (blk_below (g := gb148) (o := .cells #[.string t144, .string t145, .int .i64 t146, .bool t147] 60 (0, 0)) (pB BK148.out) hb); have n2_ := Aside0.mk (blk_below (g := gb153) (o := .cells #[.string t149, .string t150, .int .i64 t151, .bool t152] 60 (0, 0)) (pB BK153.out) hb); have n3_ := Aside0.mk (blk_below (g := gb159) (o := .cells #[.string t154, .string t155, .int .i64 t156, .bool t157] 60 (0, 0)) (pB BK159.out) hb); have n4_ := Aside0.mk (below_step (by repeat (first | (with_reducible first | exact HB.out | apply below_alloc | apply pw_below_drewN | apply below_drew1 | refine below_set ?_ GE142.out | refine below_set ?_ GE148.out | refine below_set ?_ GE153.out | refine below_set ?_ GE159.out) | exact HB.out)) hb); have n5_ := Aside0.mk (hbox); have n6_ := Aside0.mk ((by rw [hg]; exact (below_size (by repeat (first | (with_reducible first | exact HB.out | apply below_alloc | apply pw_below_drewN | apply below_drew1 | refine below_set ?_ GE142.out | refine below_set ?_ GE148.out | refine below_set ?_ GE153.out | refine below_set ?_ GE159.out) | exact HB.out))) : w.heap.size ≤ gb165)); have n7_ := Aside0.mk ((by rw [hg]; exact (below_size (by repeat (first | (with_reducible first | exact HB.out | apply below_alloc | apply pw_below_drewN | apply below_drew1 | refine below_set ?_ GE142.out | refine below_set ?_ GE148.out | refine below_set ?_ GE153.out | refine below_set ?_ GE159.out) | exact HB.out))) : w.heap.size ≤ gb165)); have n8_ := Aside0.mk ((by rw [hg]; exact Nat.ne_of_lt (blk_lt (g := gb142) (o := .cells #[.string a0_0, .string a0_1, .int .i64 a0_2, .bool a0_3] 60 (0, 0)) (pB BK142.out)) : gb142 ≠ gb165)); have n9_ := Aside0.mk ((by rw [hg]; exact Nat.ne_of_gt (blk_lt (g := gb142) (o := .cells #[.string a0_0, .string a0_1, .int .i64 a0_2, .bool a0_3] 60 (0, 0)) (pB BK142.out)) : gb165 ≠ gb142)); have n10_ := Aside0.mk ((by rw [hg]; exact Nat.ne_of_lt (blk_lt (g := gb148) (o := .cells #[.string t144, .string t145, .int .i64 t146, .bool t147] 60 (0, 0)) (pB BK148.out)) : gb148 ≠ gb165)); have n11_ := Aside0.mk ((by rw [hg]; exact Nat.ne_of_gt (blk_lt (g := gb148) (o := .cells #[.string t144, .string t145, .int .i64 t146, .bool t147] 60 (0, 0)) (pB BK148.out)) : gb165 ≠ gb148)); have n12_ := Aside0.mk ((by rw [hg]; exact Nat.ne_of_lt (blk_lt (g := gb153) (o := .cells #[.string t149, .string t150, .int .i64 t151, .bool t152] 60 (0, 0)) (pB BK153.out)) : gb153 ≠ gb165)); have n13_ := Aside0.mk ((by rw [hg]; exact Nat.ne_of_gt (blk_lt (g := gb153) (o := .cells #[.string t149, .string t150, .int .i64 t151, .bool t152] 60 (0, 0)) (pB BK153.out)) : gb165 ≠ gb153)); have n14_ := Aside0.mk ((by rw [hg]; exact Nat.ne_of_lt (blk_lt (g := gb159) (o := .cells #[.string t154, .string t155, .int .i64 t156, .bool t157] 60 (0, 0)) (pB BK159.out)) : gb159 ≠ gb165)); have n15_ := Aside0.mk ((by rw [hg]; exact Nat.ne_of_gt (blk_lt (g := gb159) (o := .cells #[.string t154, .string t155, .int .i64 t156, .bool t157] 60 (0, 0)) (pB BK159.out)) : gb165 ≠ gb159)); clear BK142; clear BK148; clear BK153; clear BK159; clear HB; have BK142 := n0_; have BK148 := n1_; have BK153 := n2_; have BK159 := n3_; have HB := n4_; have BK165 := n5_; have GW165 := n6_; have GE165 := n7_; have NB142_165 := n8_; have NB165_142 := n9_; have NB148_165 := n10_; have NB165_148 := n11_; have NB153_165 := n12_; have NB165_153 := n13_; have NB159_165 := n14_; have NB165_159 := n15_; clear n0_ n1_ n2_ n3_ n4_ n5_ n6_ n7_ n8_ n9_ n10_ n11_ n12_ n13_ n14_ n15_; clear hb hbox hg; have hnb142 := NB165_142.out; have hnc142 := NB142_165.out; have hnb143 := NB165_148.out; have hnc143 := NB148_165.out; have hnb144 := NB165_153.out; have hnc144 := NB153_165.out; have hnb145 := NB165_159.out; have hnc145 := NB159_165.out; have hcz146_0 : w141.cell? ⟨gb165, 0, none⟩ = some (.string (⟨#[]⟩ : ByteArray)) := (blk_cell BK165.out 0).trans rfl; have hcz146_1 : w141.cell? ⟨gb165, 1, none⟩ = some (.string (⟨#[]⟩ : ByteArray)) := (blk_cell BK165.out 1).trans rfl; have hcz146_2 : w141.cell? ⟨gb165, 2, none⟩ = some (.int .i64 0) := (blk_cell BK165.out 2).trans rfl; have hcz146_3 : w141.cell? ⟨gb165, 3, none⟩ = some (.bool false) := (blk_cell BK165.out 3).trans rfl; have hfz146_0 := blk_frozen BK165.out 0; have hfz146_1 := blk_frozen BK165.out 1; have hfz146_2 := blk_frozen BK165.out 2; have hfz146_3 := blk_frozen BK165.out 3))
      have n0_ : Aside0 (((((w141.setCell ⟨gb165, 0, none⟩ (.string t160)).setCell ⟨gb165, 1, none⟩ (.string t161)).setCell ⟨gb165, 2, none⟩ (.int .i64 t162)).setCell ⟨gb165, 3, none⟩ (.bool t163)).heap[gb142]? = some (.cells #[.string a0_0, .string a0_1, .int .i64 a0_2, .bool a0_3] 60 (0, 0))) := ⟨by (with_reducible repeat (first | refine blk_drewN ?_ _ | refine blk_drew ?_ | refine blk_alloc ?_ _)); refine blk_far ?_ NB142_165.out _; (with_reducible repeat (first | refine blk_drewN ?_ _ | refine blk_drew ?_ | refine blk_alloc ?_ _)); refine blk_far ?_ NB142_165.out _; (with_reducible repeat (first | refine blk_drewN ?_ _ | refine blk_drew ?_ | refine blk_alloc ?_ _)); refine blk_far ?_ NB142_165.out _; (with_reducible repeat (first | refine blk_drewN ?_ _ | refine blk_drew ?_ | refine blk_alloc ?_ _)); refine blk_far ?_ NB142_165.out _; (with_reducible repeat (first | refine blk_drewN ?_ _ | refine blk_drew ?_ | refine blk_alloc ?_ _)); exact BK142.out⟩
      have n1_ : Aside0 (((((w141.setCell ⟨gb165, 0, none⟩ (.string t160)).setCell ⟨gb165, 1, none⟩ (.string t161)).setCell ⟨gb165, 2, none⟩ (.int .i64 t162)).setCell ⟨gb165, 3, none⟩ (.bool t163)).heap[gb148]? = some (.cells #[.string t144, .string t145, .int .i64 t146, .bool t147] 60 (0, 0))) := ⟨by (with_reducible repeat (first | refine blk_drewN ?_ _ | refine blk_drew ?_ | refine blk_alloc ?_ _)); refine blk_far ?_ NB148_165.out _; (with_reducible repeat (first | refine blk_drewN ?_ _ | refine blk_drew ?_ | refine blk_alloc ?_ _)); refine blk_far ?_ NB148_165.out _; (with_reducible repeat (first | refine blk_drewN ?_ _ | refine blk_drew ?_ | refine blk_alloc ?_ _)); refine blk_far ?_ NB148_165.out _; (with_reducible repeat (first | refine blk_drewN ?_ _ | refine blk_drew ?_ | refine blk_alloc ?_ _)); refine blk_far ?_ NB148_165.out _; (with_reducible repeat (first | refine blk_drewN ?_ _ | refine blk_drew ?_ | refine blk_alloc ?_ _)); exact BK148.out⟩
      have n2_ : Aside0 (((((w141.setCell ⟨gb165, 0, none⟩ (.string t160)).setCell ⟨gb165, 1, none⟩ (.string t161)).setCell ⟨gb165, 2, none⟩ (.int .i64 t162)).setCell ⟨gb165, 3, none⟩ (.bool t163)).heap[gb153]? = some (.cells #[.string t149, .string t150, .int .i64 t151, .bool t152] 60 (0, 0))) := ⟨by (with_reducible repeat (first | refine blk_drewN ?_ _ | refine blk_drew ?_ | refine blk_alloc ?_ _)); refine blk_far ?_ NB153_165.out _; (with_reducible repeat (first | refine blk_drewN ?_ _ | refine blk_drew ?_ | refine blk_alloc ?_ _)); refine blk_far ?_ NB153_165.out _; (with_reducible repeat (first | refine blk_drewN ?_ _ | refine blk_drew ?_ | refine blk_alloc ?_ _)); refine blk_far ?_ NB153_165.out _; (with_reducible repeat (first | refine blk_drewN ?_ _ | refine blk_drew ?_ | refine blk_alloc ?_ _)); refine blk_far ?_ NB153_165.out _; (with_reducible repeat (first | refine blk_drewN ?_ _ | refine blk_drew ?_ | refine blk_alloc ?_ _)); exact BK153.out⟩
      have n3_ : Aside0 (((((w141.setCell ⟨gb165, 0, none⟩ (.string t160)).setCell ⟨gb165, 1, none⟩ (.string t161)).setCell ⟨gb165, 2, none⟩ (.int .i64 t162)).setCell ⟨gb165, 3, none⟩ (.bool t163)).heap[gb159]? = some (.cells #[.string t154, .string t155, .int .i64 t156, .bool t157] 60 (0, 0))) := ⟨by (with_reducible repeat (first | refine blk_drewN ?_ _ | refine blk_drew ?_ | refine blk_alloc ?_ _)); refine blk_far ?_ NB159_165.out _; (with_reducible repeat (first | refine blk_drewN ?_ _ | refine blk_drew ?_ | refine blk_alloc ?_ _)); refine blk_far ?_ NB159_165.out _; (with_reducible repeat (first | refine blk_drewN ?_ _ | refine blk_drew ?_ | refine blk_alloc ?_ _)); refine blk_far ?_ NB159_165.out _; (with_reducible repeat (first | refine blk_drewN ?_ _ | refine blk_drew ?_ | refine blk_alloc ?_ _)); refine blk_far ?_ NB159_165.out _; (with_reducible repeat (first | refine blk_drewN ?_ _ | refine blk_drew ?_ | refine blk_alloc ?_ _)); exact BK159.out⟩
      have n4_ : Aside0 (((((w141.setCell ⟨gb165, 0, none⟩ (.string t160)).setCell ⟨gb165, 1, none⟩ (.string t161)).setCell ⟨gb165, 2, none⟩ (.int .i64 t162)).setCell ⟨gb165, 3, none⟩ (.bool t163)).heap[gb165]? = some (.cells #[.string t160, .string t161, .int .i64 t162, .bool t163] 60 (0, 0))) := ⟨by (with_reducible repeat (first | refine blk_drewN ?_ _ | refine blk_drew ?_ | refine blk_alloc ?_ _)); refine blk_put (cs := #[.string t160, .string t161, .int .i64 t162, .bool false]) ?_ 3 _ rfl; (with_reducible repeat (first | refine blk_drewN ?_ _ | refine blk_drew ?_ | refine blk_alloc ?_ _)); refine blk_put (cs := #[.string t160, .string t161, .int .i64 0, .bool false]) ?_ 2 _ rfl; (with_reducible repeat (first | refine blk_drewN ?_ _ | refine blk_drew ?_ | refine blk_alloc ?_ _)); refine blk_put (cs := #[.string t160, .string (⟨#[]⟩ : ByteArray), .int .i64 0, .bool false]) ?_ 1 _ rfl; (with_reducible repeat (first | refine blk_drewN ?_ _ | refine blk_drew ?_ | refine blk_alloc ?_ _)); refine blk_put (cs := #[.string (⟨#[]⟩ : ByteArray), .string (⟨#[]⟩ : ByteArray), .int .i64 0, .bool false]) ?_ 0 _ rfl; (with_reducible repeat (first | refine blk_drewN ?_ _ | refine blk_drew ?_ | refine blk_alloc ?_ _)); exact BK165.out⟩
      have n5_ : Aside0 (Below w.heap.size w ((((w141.setCell ⟨gb165, 0, none⟩ (.string t160)).setCell ⟨gb165, 1, none⟩ (.string t161)).setCell ⟨gb165, 2, none⟩ (.int .i64 t162)).setCell ⟨gb165, 3, none⟩ (.bool t163))) := ⟨by repeat (first | (with_reducible first | exact HB.out | apply below_alloc | apply pw_below_drewN | apply below_drew1 | refine below_set ?_ GE142.out | refine below_set ?_ GE148.out | refine below_set ?_ GE153.out | refine below_set ?_ GE159.out | refine below_set ?_ GE165.out) | exact HB.out)⟩
      (try clear BK142)
      (try clear BK148)
      (try clear BK153)
      (try clear BK159)
      (try clear BK165)
      (try clear HB)
      generalize ((((w141.setCell ⟨gb165, 0, none⟩ (.string t160)).setCell ⟨gb165, 1, none⟩ (.string t161)).setCell ⟨gb165, 2, none⟩ (.int .i64 t162)).setCell ⟨gb165, 3, none⟩ (.bool t163)) = w147 at n0_ n1_ n2_ n3_ n4_ n5_ ⊢
      have BK142 := n0_
      have BK148 := n1_
      have BK153 := n2_
      have BK159 := n3_
      have BK165 := n4_
      have HB := n5_
      clear n0_ n1_ n2_ n3_ n4_ n5_
      have n0_ := Aside0.mk (blk_drew BK142.out)
      have n1_ := Aside0.mk (blk_drew BK148.out)
      have n2_ := Aside0.mk (blk_drew BK153.out)
      have n3_ := Aside0.mk (blk_drew BK159.out)
      have n4_ := Aside0.mk (blk_drew BK165.out)
      have n5_ := Aside0.mk (below_drew1 HB.out)
      clear BK142
      clear BK148
      clear BK153
      clear BK159
      clear BK165
      clear HB
      have BK142 := n0_
      have BK148 := n1_
      have BK153 := n2_
      have BK159 := n3_
      have BK165 := n4_
      have HB := n5_
      clear n0_ n1_ n2_ n3_ n4_ n5_
      refine start_ (n := 6) (S := fun w' => w'.cell? ⟨gb142, 0, none⟩ = some (.string a0_0) ∧ w'.cell? ⟨gb142, 1, none⟩ = some (.string a0_1) ∧ w'.cell? ⟨gb142, 2, none⟩ = some (.int .i64 a0_2) ∧ w'.cell? ⟨gb142, 3, none⟩ = some (.bool a0_3) ∧ w'.cell? ⟨gb159, 0, none⟩ = some (.string t154) ∧ w'.cell? ⟨gb159, 1, none⟩ = some (.string t155) ∧ w'.cell? ⟨gb159, 2, none⟩ = some (.int .i64 t156) ∧ w'.cell? ⟨gb159, 3, none⟩ = some (.bool t157)) (ds := []) #[false, false, false, false, false, false] (by kernel_rfl) rfl rfl ⟨(blk_cell BK142.out 0).trans rfl, (blk_cell BK142.out 1).trans rfl, (blk_cell BK142.out 2).trans rfl, (blk_cell BK142.out 3).trans rfl, (blk_cell BK159.out 0).trans rfl, (blk_cell BK159.out 1).trans rfl, (blk_cell BK159.out 2).trans rfl, (blk_cell BK159.out 3).trans rfl⟩ (fun hHeld => ?_)
      generalize w147.drew = w148 at BK142 BK148 BK153 BK159 BK165 HB hHeld ⊢
      refine take_ (i := 0) (N := some 43) (v := ?_) (a' := ?_) #[true, false, false, false, false, false] rfl rfl (by kernel_rfl) (fun _ _ _ h => h) (Or.inl ⟨by rfl, ?_⟩) hHeld ?_ ?_
      rotate_left
      ·
       rintro w' ⟨s0, s1, s2, s3, s4, s5, s6, s7⟩
       go_simp
       with_reducible rfl
      rotate_left
      ·
       simp only [Act.put, List.setIfInBounds_toArray, List.set_cons_zero, List.set_cons_succ, i64_w, i32_w]
       rfl
      refine take_ (i := 2) (N := some 45) (v := ?_) (a' := ?_) #[true, false, true, false, false, false] rfl rfl (by kernel_rfl) (fun _ _ _ h => h) (Or.inl ⟨by rfl, ?_⟩) hHeld ?_ ?_
      rotate_left
      ·
       rintro w' ⟨s0, s1, s2, s3, s4, s5, s6, s7⟩
       go_simp
       with_reducible rfl
      rotate_left
      ·
       simp only [Act.put, List.setIfInBounds_toArray, List.set_cons_zero, List.set_cons_succ, i64_w, i32_w]
       rfl
      refine one_ (i := 1) (N := some 44) #[true, true, true, false, false, false] rfl rfl (by kernel_rfl) (by decide) (fun K hK => ?_)
      refine goes_ Try.func40 (by kernel_rfl) rfl #[.agg #[.string a0_0, .string a0_1, .int .i64 a0_2, .bool a0_3]] (by rfl) rfl rfl (by (try simp only [List.map_toArray, List.map_cons, List.map_nil]); first | done | rfl | (simp only [List.length_drop, List.length_take]; rfl)) ?_
      with_reducible refine (paper_Records.calls kj4 a0_0 a0_1 a0_2 a0_3 t166 _ A16.out).mono ?_
      rintro e w149 ⟨v167, rfl, ho0, hb⟩
      refine ⟨_, rfl, ?_⟩
      have n0_ := Aside0.mk (Kd.R_lower ho0 (below_size (by repeat (first | (with_reducible first | exact HB.out | apply below_alloc | apply pw_below_drewN | apply below_drew1 | refine below_set ?_ GE142.out | refine below_set ?_ GE148.out | refine below_set ?_ GE153.out | refine below_set ?_ GE159.out | refine below_set ?_ GE165.out) | exact HB.out))))
      have n1_ := Aside0.mk (blk_below (g := gb142) (o := .cells #[.string a0_0, .string a0_1, .int .i64 a0_2, .bool a0_3] 60 (0, 0)) (pB BK142.out) hb)
      have n2_ := Aside0.mk (blk_below (g := gb148) (o := .cells #[.string t144, .string t145, .int .i64 t146, .bool t147] 60 (0, 0)) (pB BK148.out) hb)
      have n3_ := Aside0.mk (blk_below (g := gb153) (o := .cells #[.string t149, .string t150, .int .i64 t151, .bool t152] 60 (0, 0)) (pB BK153.out) hb)
      have n4_ := Aside0.mk (blk_below (g := gb159) (o := .cells #[.string t154, .string t155, .int .i64 t156, .bool t157] 60 (0, 0)) (pB BK159.out) hb)
      have n5_ := Aside0.mk (blk_below (g := gb165) (o := .cells #[.string t160, .string t161, .int .i64 t162, .bool t163] 60 (0, 0)) (pB BK165.out) hb)
      have n6_ := Aside0.mk (below_step (by repeat (first | (with_reducible first | exact HB.out | apply below_alloc | apply pw_below_drewN | apply below_drew1 | refine below_set ?_ GE142.out | refine below_set ?_ GE148.out | refine below_set ?_ GE153.out | refine below_set ?_ GE159.out | refine below_set ?_ GE165.out) | exact HB.out)) hb)
      clear BK142
      clear BK148
      clear BK153
      clear BK159
      clear BK165
      clear HB
      have HO168 := n0_
      have BK142 := n1_
      have BK148 := n2_
      have BK153 := n3_
      have BK159 := n4_
      have BK165 := n5_
      have HB := n6_
      clear n0_ n1_ n2_ n3_ n4_ n5_ n6_
      (try clear hb)
      (try clear hb2)
      (try clear hk)
      (try clear hi)
      (try clear ho0)
      refine hK.out _ _ ⟨(blk_cell BK142.out 0).trans rfl, (blk_cell BK142.out 1).trans rfl, (blk_cell BK142.out 2).trans rfl, (blk_cell BK142.out 3).trans rfl, (blk_cell BK159.out 0).trans rfl, (blk_cell BK159.out 1).trans rfl, (blk_cell BK159.out 2).trans rfl, (blk_cell BK159.out 3).trans rfl⟩ (fun hHeld => ?_)
      clear hK K
      refine norm_ (a' := ?_) ?_ ?_
      rotate_left
      ·
       show Act.put _ (some 44) _ = _
       simp only [Act.put, List.setIfInBounds_toArray, List.set_cons_zero, List.set_cons_succ, i64_w, i32_w]
       rfl
      refine one_ (i := 3) (N := some 46) #[true, true, true, true, false, false] rfl rfl (by kernel_rfl) (by decide) (fun K hK => ?_)
      refine goes_ Try.func40 (by kernel_rfl) rfl #[.agg #[.string t154, .string t155, .int .i64 t156, .bool t157]] (by rfl) rfl rfl (by (try simp only [List.map_toArray, List.map_cons, List.map_nil]); first | done | rfl | (simp only [List.length_drop, List.length_take]; rfl)) ?_
      with_reducible refine (paper_Records.calls kj4 t154 t155 t156 t157 t169 _ A17.out).mono ?_
      rintro e w150 ⟨v170, rfl, ho0, hb⟩
      refine ⟨_, rfl, ?_⟩
      have n0_ := Aside0.mk (Kd.R_elder' (Kd.pR HO168.out) (Kd.R_base ho0) hb)
      have n1_ := Aside0.mk (Kd.R_lower (Kd.R_new' ho0 (Kd.R_lt (Kd.pR HO168.out))) (below_size (by repeat (first | (with_reducible first | exact HB.out | apply below_alloc | apply pw_below_drewN | apply below_drew1 | refine below_set ?_ GE142.out | refine below_set ?_ GE148.out | refine below_set ?_ GE153.out | refine below_set ?_ GE159.out | refine below_set ?_ GE165.out) | exact HB.out))))
      have n2_ := Aside0.mk (blk_below (g := gb142) (o := .cells #[.string a0_0, .string a0_1, .int .i64 a0_2, .bool a0_3] 60 (0, 0)) (pB BK142.out) hb)
      have n3_ := Aside0.mk (blk_below (g := gb148) (o := .cells #[.string t144, .string t145, .int .i64 t146, .bool t147] 60 (0, 0)) (pB BK148.out) hb)
      have n4_ := Aside0.mk (blk_below (g := gb153) (o := .cells #[.string t149, .string t150, .int .i64 t151, .bool t152] 60 (0, 0)) (pB BK153.out) hb)
      have n5_ := Aside0.mk (blk_below (g := gb159) (o := .cells #[.string t154, .string t155, .int .i64 t156, .bool t157] 60 (0, 0)) (pB BK159.out) hb)
      have n6_ := Aside0.mk (blk_below (g := gb165) (o := .cells #[.string t160, .string t161, .int .i64 t162, .bool t163] 60 (0, 0)) (pB BK165.out) hb)
      have n7_ := Aside0.mk (below_step (by repeat (first | (with_reducible first | exact HB.out | apply below_alloc | apply pw_below_drewN | apply below_drew1 | refine below_set ?_ GE142.out | refine below_set ?_ GE148.out | refine below_set ?_ GE153.out | refine below_set ?_ GE159.out | refine below_set ?_ GE165.out) | exact HB.out)) hb)
      clear HO168
      clear BK142
      clear BK148
      clear BK153
      clear BK159
      clear BK165
      clear HB
      have HO168 := n0_
      have HO171 := n1_
      have BK142 := n2_
      have BK148 := n3_
      have BK153 := n4_
      have BK159 := n5_
      have BK165 := n6_
      have HB := n7_
      clear n0_ n1_ n2_ n3_ n4_ n5_ n6_ n7_
      (try clear hb)
      (try clear hb2)
      (try clear hk)
      (try clear hi)
      (try clear ho0)
      obtain ⟨Ao151, co151, eo151⟩ := Kd.R_slice HO168.out
      (first | subst eo151 | (injection eo151 with f1_ f2_ f3_; have f4_ := f1_.symm; have f5_ := f3_.symm; clear f1_ f2_ f3_; subst f4_; subst f5_))
      obtain ⟨Ao152, co152, eo152⟩ := Kd.R_slice HO171.out
      (first | subst eo152 | (injection eo152 with f1_ f2_ f3_; have f4_ := f1_.symm; have f5_ := f3_.symm; clear f1_ f2_ f3_; subst f4_; subst f5_))
      refine hK.out _ _ ⟨(blk_cell BK142.out 0).trans rfl, (blk_cell BK142.out 1).trans rfl, (blk_cell BK142.out 2).trans rfl, (blk_cell BK142.out 3).trans rfl, (blk_cell BK159.out 0).trans rfl, (blk_cell BK159.out 1).trans rfl, (blk_cell BK159.out 2).trans rfl, (blk_cell BK159.out 3).trans rfl⟩ (fun hHeld => ?_)
      clear hK K
      refine norm_ (a' := ?_) ?_ ?_
      rotate_left
      ·
       show Act.put _ (some 46) _ = _
       simp only [Act.put, List.setIfInBounds_toArray, List.set_cons_zero, List.set_cons_succ, i64_w, i32_w]
       rfl
      refine one_ (i := 4) (N := some 47) #[true, true, true, true, true, false] rfl rfl (by kernel_rfl) (by decide) (fun K hK => ?_)
      refine goes_ Try.func28 (by kernel_rfl) rfl #[.slice Ao151 t166.length co151, .slice Ao152 t169.length co152] (by rfl) rfl rfl (by (try simp only [List.map_toArray, List.map_cons, List.map_nil]); first | done | rfl | (simp only [List.length_drop, List.length_take]; rfl)) ?_
      with_reducible refine (selvedgeref01_Same.calls kj4 _ _ t166 _ _ t169 t172 _ ?side1 ?side2 ?side3 ?side4 A18.out).mono ?_
      (case side1 => repeat (first | exact (Kd.R_reads' HO168.out).2.2 | (with_reducible refine Kd.C_alloc ?_ _) | (with_reducible refine Kd.C_drewN ?_ _) | (with_reducible refine Kd.C_drew ?_)))
      (case side2 => exact (Kd.R_reads' HO168.out).2.1)
      (case side3 => repeat (first | exact (Kd.R_reads' HO171.out).2.2 | (with_reducible refine Kd.C_alloc ?_ _) | (with_reducible refine Kd.C_drewN ?_ _) | (with_reducible refine Kd.C_drew ?_)))
      (case side4 => exact (Kd.R_reads' HO171.out).2.1)
      rintro e w' ⟨rfl, ⟨nd, rfl⟩⟩
      refine ⟨_, rfl, ?_⟩
      refine hK.out _ _ ⟨(blk_cell BK142.out 0).trans rfl, (blk_cell BK142.out 1).trans rfl, (blk_cell BK142.out 2).trans rfl, (blk_cell BK142.out 3).trans rfl, (blk_cell BK159.out 0).trans rfl, (blk_cell BK159.out 1).trans rfl, (blk_cell BK159.out 2).trans rfl, (blk_cell BK159.out 3).trans rfl⟩ (fun hHeld => ?_)
      clear hK K
      refine norm_ (a' := ?_) ?_ ?_
      rotate_left
      ·
       show Act.put _ (some 47) _ = _
       simp only [Act.put, List.setIfInBounds_toArray, List.set_cons_zero, List.set_cons_succ, i64_w, i32_w]
       rfl
      refine pure_ (i := 5) (N := some 14) (v := ?_) (a' := ?_) #[true, true, true, true, true, true] rfl rfl (by kernel_rfl) (fun _ _ _ h => h) (Or.inl ⟨by rfl, ?_⟩) ?_ ?_
      rotate_left
      ·
       intro w'
       go_simp
       with_reducible rfl
      rotate_left
      ·
       simp only [Act.put, List.setIfInBounds_toArray, List.set_cons_zero, List.set_cons_succ, i64_w, i32_w]
       rfl
      refine done_ (by kernel_rfl) ?_
      have hcz153_0 : w150.cell? ⟨gb148, 0, none⟩ = some (.string t144) := (blk_cell BK148.out 0).trans rfl
      have hcz153_1 : w150.cell? ⟨gb148, 1, none⟩ = some (.string t145) := (blk_cell BK148.out 1).trans rfl
      have hcz153_2 : w150.cell? ⟨gb148, 2, none⟩ = some (.int .i64 t146) := (blk_cell BK148.out 2).trans rfl
      have hcz153_3 : w150.cell? ⟨gb148, 3, none⟩ = some (.bool t147) := (blk_cell BK148.out 3).trans rfl
      have hfz153_0 := blk_frozen BK148.out 0
      have hfz153_1 := blk_frozen BK148.out 1
      have hfz153_2 := blk_frozen BK148.out 2
      have hfz153_3 := blk_frozen BK148.out 3
      have hcz154_0 : w150.cell? ⟨gb153, 0, none⟩ = some (.string t149) := (blk_cell BK153.out 0).trans rfl
      have hcz154_1 : w150.cell? ⟨gb153, 1, none⟩ = some (.string t150) := (blk_cell BK153.out 1).trans rfl
      have hcz154_2 : w150.cell? ⟨gb153, 2, none⟩ = some (.int .i64 t151) := (blk_cell BK153.out 2).trans rfl
      have hcz154_3 : w150.cell? ⟨gb153, 3, none⟩ = some (.bool t152) := (blk_cell BK153.out 3).trans rfl
      have hfz154_0 := blk_frozen BK153.out 0
      have hfz154_1 := blk_frozen BK153.out 1
      have hfz154_2 := blk_frozen BK153.out 2
      have hfz154_3 := blk_frozen BK153.out 3
      try go_wp2
      go_ret
      exact ⟨by first | rfl | (simp [errW_none, errW_some] <;> rfl) | (simp [*, errW_none, errW_some] <;> rfl), by repeat (first | (with_reducible first | exact HB.out | apply below_alloc | apply pw_below_drewN | apply below_drew1 | refine below_set ?_ GE142.out | refine below_set ?_ GE148.out | refine below_set ?_ GE153.out | refine below_set ?_ GE159.out | refine below_set ?_ GE165.out) | exact HB.out)⟩
    ·
     replace c19 := Bool.eq_false_iff.mpr c19
     subst c19
     have H1 : (some false) = some r := by rw [if_neg (show ¬ (false = true) by decide)] at H; exact H
     clear H
     have H := H1
     clear H1
     obtain rfl := Option.some.inj H
     have hcz155_0 : wc.cell? ⟨gb142, 0, none⟩ = some (.string a0_0) := (blk_cell BK142.out 0).trans rfl
     have hcz155_1 : wc.cell? ⟨gb142, 1, none⟩ = some (.string a0_1) := (blk_cell BK142.out 1).trans rfl
     have hcz155_2 : wc.cell? ⟨gb142, 2, none⟩ = some (.int .i64 a0_2) := (blk_cell BK142.out 2).trans rfl
     have hcz155_3 : wc.cell? ⟨gb142, 3, none⟩ = some (.bool a0_3) := (blk_cell BK142.out 3).trans rfl
     have hfz155_0 := blk_frozen BK142.out 0
     have hfz155_1 := blk_frozen BK142.out 1
     have hfz155_2 := blk_frozen BK142.out 2
     have hfz155_3 := blk_frozen BK142.out 3
     try go_wp2_with (first | ((with_reducible refine gate_callee (f := 39) rfl ?_); refine goesL_ (some 29) rfl rfl Try.func39 (by kernel_rfl) rfl #[.agg #[.string a0_0, .string a0_1, .int .i64 a0_2, .bool a0_3], .int .i64 a1] rfl (by (try simp only [List.map_toArray, List.map_cons, List.map_nil]); first | done | rfl | (simp only [List.length_drop, List.length_take]; rfl)) ?_; (with_reducible refine (paper_Crash.calls kj4 a0_0 a0_1 a0_2 a0_3 a1 t144 t145 t146 t147 _ A12.out).mono ?_); rintro e w156 ⟨rfl, hb⟩; refine ⟨_, rfl, ?_⟩; have n0_ := Aside0.mk (blk_below (g := gb142) (o := .cells #[.string a0_0, .string a0_1, .int .i64 a0_2, .bool a0_3] 60 (0, 0)) (pB BK142.out) hb); have n1_ := Aside0.mk (below_step (by repeat (first | (with_reducible first | exact HB.out | apply below_alloc | apply pw_below_drewN | apply below_drew1 | refine below_set ?_ GE142.out) | exact HB.out)) hb); clear BK142; clear HB; have BK142 := n0_; have HB := n1_; clear n0_ n1_; (try clear hb); (try clear hb2); (try clear hk); (try clear hi)) | ((with_reducible refine gate_dst (N := 8) rfl ?_); (try (refine gate_guard (by rfl) ?_; dsimp only)); refine box_event ?hg (N := 8) ?hd (cs := #[.string (⟨#[]⟩ : ByteArray), .string (⟨#[]⟩ : ByteArray), .int .i64 0, .bool false]) (t := 60) ?hr ?_; (case hd => rfl); (case hg => rfl); (case hr => first | (go_simp; done) | (go_simp; rfl)); intro gb148 hg w157 hbox hb; have n0_ := Aside0.mk (blk_below (g := gb142) (o := .cells #[.string a0_0, .string a0_1, .int .i64 a0_2, .bool a0_3] 60 (0, 0)) (pB BK142.out) hb); have n1_ := Aside0.mk (below_step (by repeat (first | (with_reducible first | exact HB.out | apply below_alloc | apply pw_below_drewN | apply below_drew1 | refine below_set ?_ GE142.out) | exact HB.out)) hb); have n2_ := Aside0.mk (hbox); have n3_ := Aside0.mk ((by rw [hg]; exact (below_size (by repeat (first | (with_reducible first | exact HB.out | apply below_alloc | apply pw_below_drewN | apply below_drew1 | refine below_set ?_ GE142.out) | exact HB.out))) : w.heap.size ≤ gb148)); have n4_ := Aside0.mk ((by rw [hg]; exact (below_size (by repeat (first | (with_reducible first | exact HB.out | apply below_alloc | apply pw_below_drewN | apply below_drew1 | refine below_set ?_ GE142.out) | exact HB.out))) : w.heap.size ≤ gb148)); have n5_ := Aside0.mk ((by rw [hg]; exact Nat.ne_of_lt (blk_lt (g := gb142) (o := .cells #[.string a0_0, .string a0_1, .int .i64 a0_2, .bool a0_3] 60 (0, 0)) (pB BK142.out)) : gb142 ≠ gb148)); have n6_ := Aside0.mk ((by rw [hg]; exact Nat.ne_of_gt (blk_lt (g := gb142) (o := .cells #[.string a0_0, .string a0_1, .int .i64 a0_2, .bool a0_3] 60 (0, 0)) (pB BK142.out)) : gb148 ≠ gb142)); clear BK142; clear HB; have BK142 := n0_; have HB := n1_; have BK148 := n2_; have GW148 := n3_; have GE148 := n4_; have NB142_148 := n5_; have NB148_142 := n6_; clear n0_ n1_ n2_ n3_ n4_ n5_ n6_; clear hb hbox hg; have hnb158 := NB148_142.out; have hnc158 := NB142_148.out; have hcz159_0 : w157.cell? ⟨gb148, 0, none⟩ = some (.string (⟨#[]⟩ : ByteArray)) := (blk_cell BK148.out 0).trans rfl; have hcz159_1 : w157.cell? ⟨gb148, 1, none⟩ = some (.string (⟨#[]⟩ : ByteArray)) := (blk_cell BK148.out 1).trans rfl; have hcz159_2 : w157.cell? ⟨gb148, 2, none⟩ = some (.int .i64 0) := (blk_cell BK148.out 2).trans rfl; have hcz159_3 : w157.cell? ⟨gb148, 3, none⟩ = some (.bool false) := (blk_cell BK148.out 3).trans rfl; have hfz159_0 := blk_frozen BK148.out 0; have hfz159_1 := blk_frozen BK148.out 1; have hfz159_2 := blk_frozen BK148.out 2; have hfz159_3 := blk_frozen BK148.out 3) | ((with_reducible refine gate_callee (f := 39) rfl ?_); refine goesL_ (some 32) rfl rfl Try.func39 (by kernel_rfl) rfl #[.agg #[.string t144, .string t145, .int .i64 t146, .bool t147], .int .i64 a2] rfl (by (try simp only [List.map_toArray, List.map_cons, List.map_nil]); first | done | rfl | (simp only [List.length_drop, List.length_take]; rfl)) ?_; (with_reducible refine (paper_Crash.calls kj4 t144 t145 t146 t147 a2 t149 t150 t151 t152 _ A13.out).mono ?_); rintro e w160 ⟨rfl, hb⟩; refine ⟨_, rfl, ?_⟩; have n0_ := Aside0.mk (blk_below (g := gb142) (o := .cells #[.string a0_0, .string a0_1, .int .i64 a0_2, .bool a0_3] 60 (0, 0)) (by (with_reducible repeat (first | refine blk_drewN ?_ _ | refine blk_drew ?_ | refine blk_alloc ?_ _)); refine blk_far ?_ NB142_148.out _; (with_reducible repeat (first | refine blk_drewN ?_ _ | refine blk_drew ?_ | refine blk_alloc ?_ _)); refine blk_far ?_ NB142_148.out _; (with_reducible repeat (first | refine blk_drewN ?_ _ | refine blk_drew ?_ | refine blk_alloc ?_ _)); refine blk_far ?_ NB142_148.out _; (with_reducible repeat (first | refine blk_drewN ?_ _ | refine blk_drew ?_ | refine blk_alloc ?_ _)); refine blk_far ?_ NB142_148.out _; (with_reducible repeat (first | refine blk_drewN ?_ _ | refine blk_drew ?_ | refine blk_alloc ?_ _)); exact BK142.out) hb); have n1_ := Aside0.mk (blk_below (g := gb148) (o := .cells #[.string t144, .string t145, .int .i64 t146, .bool t147] 60 (0, 0)) (by (with_reducible repeat (first | refine blk_drewN ?_ _ | refine blk_drew ?_ | refine blk_alloc ?_ _)); refine blk_put (cs := #[.string t144, .string t145, .int .i64 t146, .bool false]) ?_ 3 _ rfl; (with_reducible repeat (first | refine blk_drewN ?_ _ | refine blk_drew ?_ | refine blk_alloc ?_ _)); refine blk_put (cs := #[.string t144, .string t145, .int .i64 0, .bool false]) ?_ 2 _ rfl; (with_reducible repeat (first | refine blk_drewN ?_ _ | refine blk_drew ?_ | refine blk_alloc ?_ _)); refine blk_put (cs := #[.string t144, .string (⟨#[]⟩ : ByteArray), .int .i64 0, .bool false]) ?_ 1 _ rfl; (with_reducible repeat (first | refine blk_drewN ?_ _ | refine blk_drew ?_ | refine blk_alloc ?_ _)); refine blk_put (cs := #[.string (⟨#[]⟩ : ByteArray), .string (⟨#[]⟩ : ByteArray), .int .i64 0, .bool false]) ?_ 0 _ rfl; (with_reducible repeat (first | refine blk_drewN ?_ _ | refine blk_drew ?_ | refine blk_alloc ?_ _)); exact BK148.out) hb); have n2_ := Aside0.mk (below_step (by repeat (first | (with_reducible first | exact HB.out | apply below_alloc | apply pw_below_drewN | apply below_drew1 | refine below_set ?_ GE142.out | refine below_set ?_ GE148.out) | exact HB.out)) hb); clear BK142; clear BK148; clear HB; have BK142 := n0_; have BK148 := n1_; have HB := n2_; clear n0_ n1_ n2_; (try clear hb); (try clear hb2); (try clear hk); (try clear hi)) | ((with_reducible refine gate_dst (N := 9) rfl ?_); (try (refine gate_guard (by rfl) ?_; dsimp only)); refine box_event ?hg (N := 9) ?hd (cs := #[.string (⟨#[]⟩ : ByteArray), .string (⟨#[]⟩ : ByteArray), .int .i64 0, .bool false]) (t := 60) ?hr ?_; (case hd => rfl); (case hg => rfl); (case hr => first | (go_simp; done) | (go_simp; rfl)); intro gb153 hg w161 hbox hb; have n0_ := Aside0.mk (blk_below (g := gb142) (o := .cells #[.string a0_0, .string a0_1, .int .i64 a0_2, .bool a0_3] 60 (0, 0)) (pB BK142.out) hb); have n1_ := Aside0.mk (blk_below (g := gb148) (o := .cells #[.string t144, .string t145, .int .i64 t146, .bool t147] 60 (0, 0)) (pB BK148.out) hb); have n2_ := Aside0.mk (below_step (by repeat (first | (with_reducible first | exact HB.out | apply below_alloc | apply pw_below_drewN | apply below_drew1 | refine below_set ?_ GE142.out | refine below_set ?_ GE148.out) | exact HB.out)) hb); have n3_ := Aside0.mk (hbox); have n4_ := Aside0.mk ((by rw [hg]; exact (below_size (by repeat (first | (with_reducible first | exact HB.out | apply below_alloc | apply pw_below_drewN | apply below_drew1 | refine below_set ?_ GE142.out | refine below_set ?_ GE148.out) | exact HB.out))) : w.heap.size ≤ gb153)); have n5_ := Aside0.mk ((by rw [hg]; exact (below_size (by repeat (first | (with_reducible first | exact HB.out | apply below_alloc | apply pw_below_drewN | apply below_drew1 | refine below_set ?_ GE142.out | refine below_set ?_ GE148.out) | exact HB.out))) : w.heap.size ≤ gb153)); have n6_ := Aside0.mk ((by rw [hg]; exact Nat.ne_of_lt (blk_lt (g := gb142) (o := .cells #[.string a0_0, .string a0_1, .int .i64 a0_2, .bool a0_3] 60 (0, 0)) (pB BK142.out)) : gb142 ≠ gb153)); have n7_ := Aside0.mk ((by rw [hg]; exact Nat.ne_of_gt (blk_lt (g := gb142) (o := .cells #[.string a0_0, .string a0_1, .int .i64 a0_2, .bool a0_3] 60 (0, 0)) (pB BK142.out)) : gb153 ≠ gb142)); have n8_ := Aside0.mk ((by rw [hg]; exact Nat.ne_of_lt (blk_lt (g := gb148) (o := .cells #[.string t144, .string t145, .int .i64 t146, .bool t147] 60 (0, 0)) (pB BK148.out)) : gb148 ≠ gb153)); have n9_ := Aside0.mk ((by rw [hg]; exact Nat.ne_of_gt (blk_lt (g := gb148) (o := .cells #[.string t144, .string t145, .int .i64 t146, .bool t147] 60 (0, 0)) (pB BK148.out)) : gb153 ≠ gb148)); clear BK142; clear BK148; clear HB; have BK142 := n0_; have BK148 := n1_; have HB := n2_; have BK153 := n3_; have GW153 := n4_; have GE153 := n5_; have NB142_153 := n6_; have NB153_142 := n7_; have NB148_153 := n8_; have NB153_148 := n9_; clear n0_ n1_ n2_ n3_ n4_ n5_ n6_ n7_ n8_ n9_; clear hb hbox hg; have hnb162 := NB153_142.out; have hnc162 := NB142_153.out; have hnb163 := NB153_148.out; have hnc163 := NB148_153.out; have hcz164_0 : w161.cell? ⟨gb153, 0, none⟩ = some (.string (⟨#[]⟩ : ByteArray)) := (blk_cell BK153.out 0).trans rfl; have hcz164_1 : w161.cell? ⟨gb153, 1, none⟩ = some (.string (⟨#[]⟩ : ByteArray)) := (blk_cell BK153.out 1).trans rfl; have hcz164_2 : w161.cell? ⟨gb153, 2, none⟩ = some (.int .i64 0) := (blk_cell BK153.out 2).trans rfl; have hcz164_3 : w161.cell? ⟨gb153, 3, none⟩ = some (.bool false) := (blk_cell BK153.out 3).trans rfl; have hfz164_0 := blk_frozen BK153.out 0; have hfz164_1 := blk_frozen BK153.out 1; have hfz164_2 := blk_frozen BK153.out 2; have hfz164_3 := blk_frozen BK153.out 3; have hcz165_0 : w161.cell? ⟨gb142, 0, none⟩ = some (.string a0_0) := (blk_cell BK142.out 0).trans rfl; have hcz165_1 : w161.cell? ⟨gb142, 1, none⟩ = some (.string a0_1) := (blk_cell BK142.out 1).trans rfl; have hcz165_2 : w161.cell? ⟨gb142, 2, none⟩ = some (.int .i64 a0_2) := (blk_cell BK142.out 2).trans rfl; have hcz165_3 : w161.cell? ⟨gb142, 3, none⟩ = some (.bool a0_3) := (blk_cell BK142.out 3).trans rfl; have hfz165_0 := blk_frozen BK142.out 0; have hfz165_1 := blk_frozen BK142.out 1; have hfz165_2 := blk_frozen BK142.out 2; have hfz165_3 := blk_frozen BK142.out 3) | ((with_reducible refine gate_callee (f := 38) rfl ?_); refine goesL_ (some 35) rfl rfl Try.func38 (by kernel_rfl) rfl #[.agg #[.string a0_0, .string a0_1, .int .i64 a0_2, .bool a0_3]] rfl (by (try simp only [List.map_toArray, List.map_cons, List.map_nil]); first | done | rfl | (simp only [List.length_drop, List.length_take]; rfl)) ?_; (with_reducible refine (paper_Sync.calls a0_0 a0_1 a0_2 a0_3 t154 t155 t156 t157 t158 _ A14.out).mono ?_); rintro e w166 ⟨rfl, hb⟩; refine ⟨_, rfl, ?_⟩; have n0_ := Aside0.mk (blk_below (g := gb142) (o := .cells #[.string a0_0, .string a0_1, .int .i64 a0_2, .bool a0_3] 60 (0, 0)) (by (with_reducible repeat (first | refine blk_drewN ?_ _ | refine blk_drew ?_ | refine blk_alloc ?_ _)); refine blk_far ?_ NB142_153.out _; (with_reducible repeat (first | refine blk_drewN ?_ _ | refine blk_drew ?_ | refine blk_alloc ?_ _)); refine blk_far ?_ NB142_153.out _; (with_reducible repeat (first | refine blk_drewN ?_ _ | refine blk_drew ?_ | refine blk_alloc ?_ _)); refine blk_far ?_ NB142_153.out _; (with_reducible repeat (first | refine blk_drewN ?_ _ | refine blk_drew ?_ | refine blk_alloc ?_ _)); refine blk_far ?_ NB142_153.out _; (with_reducible repeat (first | refine blk_drewN ?_ _ | refine blk_drew ?_ | refine blk_alloc ?_ _)); exact BK142.out) hb); have n1_ := Aside0.mk (blk_below (g := gb148) (o := .cells #[.string t144, .string t145, .int .i64 t146, .bool t147] 60 (0, 0)) (by (with_reducible repeat (first | refine blk_drewN ?_ _ | refine blk_drew ?_ | refine blk_alloc ?_ _)); refine blk_far ?_ NB148_153.out _; (with_reducible repeat (first | refine blk_drewN ?_ _ | refine blk_drew ?_ | refine blk_alloc ?_ _)); refine blk_far ?_ NB148_153.out _; (with_reducible repeat (first | refine blk_drewN ?_ _ | refine blk_drew ?_ | refine blk_alloc ?_ _)); refine blk_far ?_ NB148_153.out _; (with_reducible repeat (first | refine blk_drewN ?_ _ | refine blk_drew ?_ | refine blk_alloc ?_ _)); refine blk_far ?_ NB148_153.out _; (with_reducible repeat (first | refine blk_drewN ?_ _ | refine blk_drew ?_ | refine blk_alloc ?_ _)); exact BK148.out) hb); have n2_ := Aside0.mk (blk_below (g := gb153) (o := .cells #[.string t149, .string t150, .int .i64 t151, .bool t152] 60 (0, 0)) (by (with_reducible repeat (first | refine blk_drewN ?_ _ | refine blk_drew ?_ | refine blk_alloc ?_ _)); refine blk_put (cs := #[.string t149, .string t150, .int .i64 t151, .bool false]) ?_ 3 _ rfl; (with_reducible repeat (first | refine blk_drewN ?_ _ | refine blk_drew ?_ | refine blk_alloc ?_ _)); refine blk_put (cs := #[.string t149, .string t150, .int .i64 0, .bool false]) ?_ 2 _ rfl; (with_reducible repeat (first | refine blk_drewN ?_ _ | refine blk_drew ?_ | refine blk_alloc ?_ _)); refine blk_put (cs := #[.string t149, .string (⟨#[]⟩ : ByteArray), .int .i64 0, .bool false]) ?_ 1 _ rfl; (with_reducible repeat (first | refine blk_drewN ?_ _ | refine blk_drew ?_ | refine blk_alloc ?_ _)); refine blk_put (cs := #[.string (⟨#[]⟩ : ByteArray), .string (⟨#[]⟩ : ByteArray), .int .i64 0, .bool false]) ?_ 0 _ rfl; (with_reducible repeat (first | refine blk_drewN ?_ _ | refine blk_drew ?_ | refine blk_alloc ?_ _)); exact BK153.out) hb); have n3_ := Aside0.mk (below_step (by repeat (first | (with_reducible first | exact HB.out | apply below_alloc | apply pw_below_drewN | apply below_drew1 | refine below_set ?_ GE142.out | refine below_set ?_ GE148.out | refine below_set ?_ GE153.out) | exact HB.out)) hb); clear BK142; clear BK148; clear BK153; clear HB; have BK142 := n0_; have BK148 := n1_; have BK153 := n2_; have HB := n3_; clear n0_ n1_ n2_ n3_; (try clear hb); (try clear hb2); (try clear hk); (try clear hi)) | ((with_reducible refine gate_dst (N := 10) rfl ?_); (try (refine gate_guard (by rfl) ?_; dsimp only)); refine box_event ?hg (N := 10) ?hd (cs := #[.string (⟨#[]⟩ : ByteArray), .string (⟨#[]⟩ : ByteArray), .int .i64 0, .bool false]) (t := 60) ?hr ?_; (case hd => rfl); (case hg => rfl); (case hr => first | (go_simp; done) | (go_simp; rfl)); intro gb159 hg w167 hbox hb; have n0_ := Aside0.mk (blk_below (g := gb142) (o := .cells #[.string a0_0, .string a0_1, .int .i64 a0_2, .bool a0_3] 60 (0, 0)) (pB BK142.out) hb); have n1_ := Aside0.mk (blk_below (g := gb148) (o := .cells #[.string t144, .string t145, .int .i64 t146, .bool t147] 60 (0, 0)) (pB BK148.out) hb); have n2_ := Aside0.mk (blk_below (g := gb153) (o := .cells #[.string t149, .string t150, .int .i64 t151, .bool t152] 60 (0, 0)) (pB BK153.out) hb); have n3_ := Aside0.mk (below_step (by repeat (first | (with_reducible first | exact HB.out | apply below_alloc | apply pw_below_drewN | apply below_drew1 | refine below_set ?_ GE142.out | refine below_set ?_ GE148.out | refine below_set ?_ GE153.out) | exact HB.out)) hb); have n4_ := Aside0.mk (hbox); have n5_ := Aside0.mk ((by rw [hg]; exact (below_size (by repeat (first | (with_reducible first | exact HB.out | apply below_alloc | apply pw_below_drewN | apply below_drew1 | refine below_set ?_ GE142.out | refine below_set ?_ GE148.out | refine below_set ?_ GE153.out) | exact HB.out))) : w.heap.size ≤ gb159)); have n6_ := Aside0.mk ((by rw [hg]; exact (below_size (by repeat (first | (with_reducible first | exact HB.out | apply below_alloc | apply pw_below_drewN | apply below_drew1 | refine below_set ?_ GE142.out | refine below_set ?_ GE148.out | refine below_set ?_ GE153.out) | exact HB.out))) : w.heap.size ≤ gb159)); have n7_ := Aside0.mk ((by rw [hg]; exact Nat.ne_of_lt (blk_lt (g := gb142) (o := .cells #[.string a0_0, .string a0_1, .int .i64 a0_2, .bool a0_3] 60 (0, 0)) (pB BK142.out)) : gb142 ≠ gb159)); have n8_ := Aside0.mk ((by rw [hg]; exact Nat.ne_of_gt (blk_lt (g := gb142) (o := .cells #[.string a0_0, .string a0_1, .int .i64 a0_2, .bool a0_3] 60 (0, 0)) (pB BK142.out)) : gb159 ≠ gb142)); have n9_ := Aside0.mk ((by rw [hg]; exact Nat.ne_of_lt (blk_lt (g := gb148) (o := .cells #[.string t144, .string t145, .int .i64 t146, .bool t147] 60 (0, 0)) (pB BK148.out)) : gb148 ≠ gb159)); have n10_ := Aside0.mk ((by rw [hg]; exact Nat.ne_of_gt (blk_lt (g := gb148) (o := .cells #[.string t144, .string t145, .int .i64 t146, .bool t147] 60 (0, 0)) (pB BK148.out)) : gb159 ≠ gb148)); have n11_ := Aside0.mk ((by rw [hg]; exact Nat.ne_of_lt (blk_lt (g := gb153) (o := .cells #[.string t149, .string t150, .int .i64 t151, .bool t152] 60 (0, 0)) (pB BK153.out)) : gb153 ≠ gb159)); have n12_ := Aside0.mk ((by rw [hg]; exact Nat.ne_of_gt (blk_lt (g := gb153) (o := .cells #[.string t149, .string t150, .int .i64 t151, .bool t152] 60 (0, 0)) (pB BK153.out)) : gb159 ≠ gb153)); clear BK142; clear BK148; clear BK153; clear HB; have BK142 := n0_; have BK148 := n1_; have BK153 := n2_; have HB := n3_; have BK159 := n4_; have GW159 := n5_; have GE159 := n6_; have NB142_159 := n7_; have NB159_142 := n8_; have NB148_159 := n9_; have NB159_148 := n10_; have NB153_159 := n11_; have NB159_153 := n12_; clear n0_ n1_ n2_ n3_ n4_ n5_ n6_ n7_ n8_ n9_ n10_ n11_ n12_; clear hb hbox hg; have hnb168 := NB159_142.out; have hnc168 := NB142_159.out; have hnb169 := NB159_148.out; have hnc169 := NB148_159.out; have hnb170 := NB159_153.out; have hnc170 := NB153_159.out; have hcz171_0 : w167.cell? ⟨gb159, 0, none⟩ = some (.string (⟨#[]⟩ : ByteArray)) := (blk_cell BK159.out 0).trans rfl; have hcz171_1 : w167.cell? ⟨gb159, 1, none⟩ = some (.string (⟨#[]⟩ : ByteArray)) := (blk_cell BK159.out 1).trans rfl; have hcz171_2 : w167.cell? ⟨gb159, 2, none⟩ = some (.int .i64 0) := (blk_cell BK159.out 2).trans rfl; have hcz171_3 : w167.cell? ⟨gb159, 3, none⟩ = some (.bool false) := (blk_cell BK159.out 3).trans rfl; have hfz171_0 := blk_frozen BK159.out 0; have hfz171_1 := blk_frozen BK159.out 1; have hfz171_2 := blk_frozen BK159.out 2; have hfz171_3 := blk_frozen BK159.out 3) | ((with_reducible refine gate_callee (f := 38) rfl ?_); refine goesL_ (some 40) rfl rfl Try.func38 (by kernel_rfl) rfl #[.agg #[.string t154, .string t155, .int .i64 t156, .bool t157]] rfl (by (try simp only [List.map_toArray, List.map_cons, List.map_nil]); first | done | rfl | (simp only [List.length_drop, List.length_take]; rfl)) ?_; (with_reducible refine (paper_Sync.calls t154 t155 t156 t157 t160 t161 t162 t163 t164 _ A15.out).mono ?_); rintro e w172 ⟨rfl, hb⟩; refine ⟨_, rfl, ?_⟩; have n0_ := Aside0.mk (blk_below (g := gb142) (o := .cells #[.string a0_0, .string a0_1, .int .i64 a0_2, .bool a0_3] 60 (0, 0)) (by (with_reducible repeat (first | refine blk_drewN ?_ _ | refine blk_drew ?_ | refine blk_alloc ?_ _)); refine blk_far ?_ NB142_159.out _; (with_reducible repeat (first | refine blk_drewN ?_ _ | refine blk_drew ?_ | refine blk_alloc ?_ _)); refine blk_far ?_ NB142_159.out _; (with_reducible repeat (first | refine blk_drewN ?_ _ | refine blk_drew ?_ | refine blk_alloc ?_ _)); refine blk_far ?_ NB142_159.out _; (with_reducible repeat (first | refine blk_drewN ?_ _ | refine blk_drew ?_ | refine blk_alloc ?_ _)); refine blk_far ?_ NB142_159.out _; (with_reducible repeat (first | refine blk_drewN ?_ _ | refine blk_drew ?_ | refine blk_alloc ?_ _)); exact BK142.out) hb); have n1_ := Aside0.mk (blk_below (g := gb148) (o := .cells #[.string t144, .string t145, .int .i64 t146, .bool t147] 60 (0, 0)) (by (with_reducible repeat (first | refine blk_drewN ?_ _ | refine blk_drew ?_ | refine blk_alloc ?_ _)); refine blk_far ?_ NB148_159.out _; (with_reducible repeat (first | refine blk_drewN ?_ _ | refine blk_drew ?_ | refine blk_alloc ?_ _)); refine blk_far ?_ NB148_159.out _; (with_reducible repeat (first | refine blk_drewN ?_ _ | refine blk_drew ?_ | refine blk_alloc ?_ _)); refine blk_far ?_ NB148_159.out _; (with_reducible repeat (first | refine blk_drewN ?_ _ | refine blk_drew ?_ | refine blk_alloc ?_ _)); refine blk_far ?_ NB148_159.out _; (with_reducible repeat (first | refine blk_drewN ?_ _ | refine blk_drew ?_ | refine blk_alloc ?_ _)); exact BK148.out) hb); have n2_ := Aside0.mk (blk_below (g := gb153) (o := .cells #[.string t149, .string t150, .int .i64 t151, .bool t152] 60 (0, 0)) (by (with_reducible repeat (first | refine blk_drewN ?_ _ | refine blk_drew ?_ | refine blk_alloc ?_ _)); refine blk_far ?_ NB153_159.out _; (with_reducible repeat (first | refine blk_drewN ?_ _ | refine blk_drew ?_ | refine blk_alloc ?_ _)); refine blk_far ?_ NB153_159.out _; (with_reducible repeat (first | refine blk_drewN ?_ _ | refine blk_drew ?_ | refine blk_alloc ?_ _)); refine blk_far ?_ NB153_159.out _; (with_reducible repeat (first | refine blk_drewN ?_ _ | refine blk_drew ?_ | refine blk_alloc ?_ _)); refine blk_far ?_ NB153_159.out _; (with_reducible repeat (first | refine blk_drewN ?_ _ | refine blk_drew ?_ | refine blk_alloc ?_ _)); exact BK153.out) hb); have n3_ := Aside0.mk (blk_below (g := gb159) (o := .cells #[.string t154, .string t155, .int .i64 t156, .bool t157] 60 (0, 0)) (by (with_reducible repeat (first | refine blk_drewN ?_ _ | refine blk_drew ?_ | refine blk_alloc ?_ _)); refine blk_put (cs := #[.string t154, .string t155, .int .i64 t156, .bool false]) ?_ 3 _ rfl; (with_reducible repeat (first | refine blk_drewN ?_ _ | refine blk_drew ?_ | refine blk_alloc ?_ _)); refine blk_put (cs := #[.string t154, .string t155, .int .i64 0, .bool false]) ?_ 2 _ rfl; (with_reducible repeat (first | refine blk_drewN ?_ _ | refine blk_drew ?_ | refine blk_alloc ?_ _)); refine blk_put (cs := #[.string t154, .string (⟨#[]⟩ : ByteArray), .int .i64 0, .bool false]) ?_ 1 _ rfl; (with_reducible repeat (first | refine blk_drewN ?_ _ | refine blk_drew ?_ | refine blk_alloc ?_ _)); refine blk_put (cs := #[.string (⟨#[]⟩ : ByteArray), .string (⟨#[]⟩ : ByteArray), .int .i64 0, .bool false]) ?_ 0 _ rfl; (with_reducible repeat (first | refine blk_drewN ?_ _ | refine blk_drew ?_ | refine blk_alloc ?_ _)); exact BK159.out) hb); have n4_ := Aside0.mk (below_step (by repeat (first | (with_reducible first | exact HB.out | apply below_alloc | apply pw_below_drewN | apply below_drew1 | refine below_set ?_ GE142.out | refine below_set ?_ GE148.out | refine below_set ?_ GE153.out | refine below_set ?_ GE159.out) | exact HB.out)) hb); clear BK142; clear BK148; clear BK153; clear BK159; clear HB; have BK142 := n0_; have BK148 := n1_; have BK153 := n2_; have BK159 := n3_; have HB := n4_; clear n0_ n1_ n2_ n3_ n4_; (try clear hb); (try clear hb2); (try clear hk); (try clear hi)) | ((with_reducible refine gate_dst (N := 12) rfl ?_); (try (refine gate_guard (by rfl) ?_; dsimp only)); refine box_event ?hg (N := 12) ?hd (cs := #[.string (⟨#[]⟩ : ByteArray), .string (⟨#[]⟩ : ByteArray), .int .i64 0, .bool false]) (t := 60) ?hr ?_; (case hd => rfl); (case hg => rfl); (case hr => first | (go_simp; done) | (go_simp; rfl)); intro gb165 hg w173 hbox hb; have n0_ := Aside0.mk (blk_below (g := gb142) (o := .cells #[.string a0_0, .string a0_1, .int .i64 a0_2, .bool a0_3] 60 (0, 0)) (pB BK142.out) hb); have n1_ := Aside0.mk (blk_below (g := gb148) (o := .cells #[.string t144, .string t145, .int .i64 t146, .bool t147] 60 (0, 0)) (pB BK148.out) hb); have n2_ := Aside0.mk (blk_below (g := gb153) (o := .cells #[.string t149, .string t150, .int .i64 t151, .bool t152] 60 (0, 0)) (pB BK153.out) hb); have n3_ := Aside0.mk (blk_below (g := gb159) (o := .cells #[.string t154, .string t155, .int .i64 t156, .bool t157] 60 (0, 0)) (pB BK159.out) hb); have n4_ := Aside0.mk (below_step (by repeat (first | (with_reducible first | exact HB.out | apply below_alloc | apply pw_below_drewN | apply below_drew1 | refine below_set ?_ GE142.out | refine below_set ?_ GE148.out | refine below_set ?_ GE153.out | refine below_set ?_ GE159.out) | exact HB.out)) hb); have n5_ := Aside0.mk (hbox); have n6_ := Aside0.mk ((by rw [hg]; exact (below_size (by repeat (first | (with_reducible first | exact HB.out | apply below_alloc | apply pw_below_drewN | apply below_drew1 | refine below_set ?_ GE142.out | refine below_set ?_ GE148.out | refine below_set ?_ GE153.out | refine below_set ?_ GE159.out) | exact HB.out))) : w.heap.size ≤ gb165)); have n7_ := Aside0.mk ((by rw [hg]; exact (below_size (by repeat (first | (with_reducible first | exact HB.out | apply below_alloc | apply pw_below_drewN | apply below_drew1 | refine below_set ?_ GE142.out | refine below_set ?_ GE148.out | refine below_set ?_ GE153.out | refine below_set ?_ GE159.out) | exact HB.out))) : w.heap.size ≤ gb165)); have n8_ := Aside0.mk ((by rw [hg]; exact Nat.ne_of_lt (blk_lt (g := gb142) (o := .cells #[.string a0_0, .string a0_1, .int .i64 a0_2, .bool a0_3] 60 (0, 0)) (pB BK142.out)) : gb142 ≠ gb165)); have n9_ := Aside0.mk ((by rw [hg]; exact Nat.ne_of_gt (blk_lt (g := gb142) (o := .cells #[.string a0_0, .string a0_1, .int .i64 a0_2, .bool a0_3] 60 (0, 0)) (pB BK142.out)) : gb165 ≠ gb142)); have n10_ := Aside0.mk ((by rw [hg]; exact Nat.ne_of_lt (blk_lt (g := gb148) (o := .cells #[.string t144, .string t145, .int .i64 t146, .bool t147] 60 (0, 0)) (pB BK148.out)) : gb148 ≠ gb165)); have n11_ := Aside0.mk ((by rw [hg]; exact Nat.ne_of_gt (blk_lt (g := gb148) (o := .cells #[.string t144, .string t145, .int .i64 t146, .bool t147] 60 (0, 0)) (pB BK148.out)) : gb165 ≠ gb148)); have n12_ := Aside0.mk ((by rw [hg]; exact Nat.ne_of_lt (blk_lt (g := gb153) (o := .cells #[.string t149, .string t150, .int .i64 t151, .bool t152] 60 (0, 0)) (pB BK153.out)) : gb153 ≠ gb165)); have n13_ := Aside0.mk ((by rw [hg]; exact Nat.ne_of_gt (blk_lt (g := gb153) (o := .cells #[.string t149, .string t150, .int .i64 t151, .bool t152] 60 (0, 0)) (pB BK153.out)) : gb165 ≠ gb153)); have n14_ := Aside0.mk ((by rw [hg]; exact Nat.ne_of_lt (blk_lt (g := gb159) (o := .cells #[.string t154, .string t155, .int .i64 t156, .bool t157] 60 (0, 0)) (pB BK159.out)) : gb159 ≠ gb165)); have n15_ := Aside0.mk ((by rw [hg]; exact Nat.ne_of_gt (blk_lt (g := gb159) (o := .cells #[.string t154, .string t155, .int .i64 t156, .bool t157] 60 (0, 0)) (pB BK159.out)) : gb165 ≠ gb159)); clear BK142; clear BK148; clear BK153; clear BK159; clear HB; have BK142 := n0_; have BK148 := n1_; have BK153 := n2_; have BK159 := n3_; have HB := n4_; have BK165 := n5_; have GW165 := n6_; have GE165 := n7_; have NB142_165 := n8_; have NB165_142 := n9_; have NB148_165 := n10_; have NB165_148 := n11_; have NB153_165 := n12_; have NB165_153 := n13_; have NB159_165 := n14_; have NB165_159 := n15_; clear n0_ n1_ n2_ n3_ n4_ n5_ n6_ n7_ n8_ n9_ n10_ n11_ n12_ n13_ n14_ n15_; clear hb hbox hg; have hnb174 := NB165_142.out; have hnc174 := NB142_165.out; have hnb175 := NB165_148.out; have hnc175 := NB148_165.out; have hnb176 := NB165_153.out; have hnc176 := NB153_165.out; have hnb177 := NB165_159.out; have hnc177 := NB159_165.out; have hcz178_0 : w173.cell? ⟨gb165, 0, none⟩ = some (.string (⟨#[]⟩ : ByteArray)) := (blk_cell BK165.out 0).trans rfl; have hcz178_1 : w173.cell? ⟨gb165, 1, none⟩ = some (.string (⟨#[]⟩ : ByteArray)) := (blk_cell BK165.out 1).trans rfl; have hcz178_2 : w173.cell? ⟨gb165, 2, none⟩ = some (.int .i64 0) := (blk_cell BK165.out 2).trans rfl; have hcz178_3 : w173.cell? ⟨gb165, 3, none⟩ = some (.bool false) := (blk_cell BK165.out 3).trans rfl; have hfz178_0 := blk_frozen BK165.out 0; have hfz178_1 := blk_frozen BK165.out 1; have hfz178_2 := blk_frozen BK165.out 2; have hfz178_3 := blk_frozen BK165.out 3))
     have n0_ : Aside0 (((((w173.setCell ⟨gb165, 0, none⟩ (.string t160)).setCell ⟨gb165, 1, none⟩ (.string t161)).setCell ⟨gb165, 2, none⟩ (.int .i64 t162)).setCell ⟨gb165, 3, none⟩ (.bool t163)).heap[gb142]? = some (.cells #[.string a0_0, .string a0_1, .int .i64 a0_2, .bool a0_3] 60 (0, 0))) := ⟨by (with_reducible repeat (first | refine blk_drewN ?_ _ | refine blk_drew ?_ | refine blk_alloc ?_ _)); refine blk_far ?_ NB142_165.out _; (with_reducible repeat (first | refine blk_drewN ?_ _ | refine blk_drew ?_ | refine blk_alloc ?_ _)); refine blk_far ?_ NB142_165.out _; (with_reducible repeat (first | refine blk_drewN ?_ _ | refine blk_drew ?_ | refine blk_alloc ?_ _)); refine blk_far ?_ NB142_165.out _; (with_reducible repeat (first | refine blk_drewN ?_ _ | refine blk_drew ?_ | refine blk_alloc ?_ _)); refine blk_far ?_ NB142_165.out _; (with_reducible repeat (first | refine blk_drewN ?_ _ | refine blk_drew ?_ | refine blk_alloc ?_ _)); exact BK142.out⟩
     have n1_ : Aside0 (((((w173.setCell ⟨gb165, 0, none⟩ (.string t160)).setCell ⟨gb165, 1, none⟩ (.string t161)).setCell ⟨gb165, 2, none⟩ (.int .i64 t162)).setCell ⟨gb165, 3, none⟩ (.bool t163)).heap[gb148]? = some (.cells #[.string t144, .string t145, .int .i64 t146, .bool t147] 60 (0, 0))) := ⟨by (with_reducible repeat (first | refine blk_drewN ?_ _ | refine blk_drew ?_ | refine blk_alloc ?_ _)); refine blk_far ?_ NB148_165.out _; (with_reducible repeat (first | refine blk_drewN ?_ _ | refine blk_drew ?_ | refine blk_alloc ?_ _)); refine blk_far ?_ NB148_165.out _; (with_reducible repeat (first | refine blk_drewN ?_ _ | refine blk_drew ?_ | refine blk_alloc ?_ _)); refine blk_far ?_ NB148_165.out _; (with_reducible repeat (first | refine blk_drewN ?_ _ | refine blk_drew ?_ | refine blk_alloc ?_ _)); refine blk_far ?_ NB148_165.out _; (with_reducible repeat (first | refine blk_drewN ?_ _ | refine blk_drew ?_ | refine blk_alloc ?_ _)); exact BK148.out⟩
     have n2_ : Aside0 (((((w173.setCell ⟨gb165, 0, none⟩ (.string t160)).setCell ⟨gb165, 1, none⟩ (.string t161)).setCell ⟨gb165, 2, none⟩ (.int .i64 t162)).setCell ⟨gb165, 3, none⟩ (.bool t163)).heap[gb153]? = some (.cells #[.string t149, .string t150, .int .i64 t151, .bool t152] 60 (0, 0))) := ⟨by (with_reducible repeat (first | refine blk_drewN ?_ _ | refine blk_drew ?_ | refine blk_alloc ?_ _)); refine blk_far ?_ NB153_165.out _; (with_reducible repeat (first | refine blk_drewN ?_ _ | refine blk_drew ?_ | refine blk_alloc ?_ _)); refine blk_far ?_ NB153_165.out _; (with_reducible repeat (first | refine blk_drewN ?_ _ | refine blk_drew ?_ | refine blk_alloc ?_ _)); refine blk_far ?_ NB153_165.out _; (with_reducible repeat (first | refine blk_drewN ?_ _ | refine blk_drew ?_ | refine blk_alloc ?_ _)); refine blk_far ?_ NB153_165.out _; (with_reducible repeat (first | refine blk_drewN ?_ _ | refine blk_drew ?_ | refine blk_alloc ?_ _)); exact BK153.out⟩
     have n3_ : Aside0 (((((w173.setCell ⟨gb165, 0, none⟩ (.string t160)).setCell ⟨gb165, 1, none⟩ (.string t161)).setCell ⟨gb165, 2, none⟩ (.int .i64 t162)).setCell ⟨gb165, 3, none⟩ (.bool t163)).heap[gb159]? = some (.cells #[.string t154, .string t155, .int .i64 t156, .bool t157] 60 (0, 0))) := ⟨by (with_reducible repeat (first | refine blk_drewN ?_ _ | refine blk_drew ?_ | refine blk_alloc ?_ _)); refine blk_far ?_ NB159_165.out _; (with_reducible repeat (first | refine blk_drewN ?_ _ | refine blk_drew ?_ | refine blk_alloc ?_ _)); refine blk_far ?_ NB159_165.out _; (with_reducible repeat (first | refine blk_drewN ?_ _ | refine blk_drew ?_ | refine blk_alloc ?_ _)); refine blk_far ?_ NB159_165.out _; (with_reducible repeat (first | refine blk_drewN ?_ _ | refine blk_drew ?_ | refine blk_alloc ?_ _)); refine blk_far ?_ NB159_165.out _; (with_reducible repeat (first | refine blk_drewN ?_ _ | refine blk_drew ?_ | refine blk_alloc ?_ _)); exact BK159.out⟩
     have n4_ : Aside0 (((((w173.setCell ⟨gb165, 0, none⟩ (.string t160)).setCell ⟨gb165, 1, none⟩ (.string t161)).setCell ⟨gb165, 2, none⟩ (.int .i64 t162)).setCell ⟨gb165, 3, none⟩ (.bool t163)).heap[gb165]? = some (.cells #[.string t160, .string t161, .int .i64 t162, .bool t163] 60 (0, 0))) := ⟨by (with_reducible repeat (first | refine blk_drewN ?_ _ | refine blk_drew ?_ | refine blk_alloc ?_ _)); refine blk_put (cs := #[.string t160, .string t161, .int .i64 t162, .bool false]) ?_ 3 _ rfl; (with_reducible repeat (first | refine blk_drewN ?_ _ | refine blk_drew ?_ | refine blk_alloc ?_ _)); refine blk_put (cs := #[.string t160, .string t161, .int .i64 0, .bool false]) ?_ 2 _ rfl; (with_reducible repeat (first | refine blk_drewN ?_ _ | refine blk_drew ?_ | refine blk_alloc ?_ _)); refine blk_put (cs := #[.string t160, .string (⟨#[]⟩ : ByteArray), .int .i64 0, .bool false]) ?_ 1 _ rfl; (with_reducible repeat (first | refine blk_drewN ?_ _ | refine blk_drew ?_ | refine blk_alloc ?_ _)); refine blk_put (cs := #[.string (⟨#[]⟩ : ByteArray), .string (⟨#[]⟩ : ByteArray), .int .i64 0, .bool false]) ?_ 0 _ rfl; (with_reducible repeat (first | refine blk_drewN ?_ _ | refine blk_drew ?_ | refine blk_alloc ?_ _)); exact BK165.out⟩
     have n5_ : Aside0 (Below w.heap.size w ((((w173.setCell ⟨gb165, 0, none⟩ (.string t160)).setCell ⟨gb165, 1, none⟩ (.string t161)).setCell ⟨gb165, 2, none⟩ (.int .i64 t162)).setCell ⟨gb165, 3, none⟩ (.bool t163))) := ⟨by repeat (first | (with_reducible first | exact HB.out | apply below_alloc | apply pw_below_drewN | apply below_drew1 | refine below_set ?_ GE142.out | refine below_set ?_ GE148.out | refine below_set ?_ GE153.out | refine below_set ?_ GE159.out | refine below_set ?_ GE165.out) | exact HB.out)⟩
     (try clear BK142)
     (try clear BK148)
     (try clear BK153)
     (try clear BK159)
     (try clear BK165)
     (try clear HB)
     generalize ((((w173.setCell ⟨gb165, 0, none⟩ (.string t160)).setCell ⟨gb165, 1, none⟩ (.string t161)).setCell ⟨gb165, 2, none⟩ (.int .i64 t162)).setCell ⟨gb165, 3, none⟩ (.bool t163)) = w179 at n0_ n1_ n2_ n3_ n4_ n5_ ⊢
     have BK142 := n0_
     have BK148 := n1_
     have BK153 := n2_
     have BK159 := n3_
     have BK165 := n4_
     have HB := n5_
     clear n0_ n1_ n2_ n3_ n4_ n5_
     have n0_ := Aside0.mk (blk_drew BK142.out)
     have n1_ := Aside0.mk (blk_drew BK148.out)
     have n2_ := Aside0.mk (blk_drew BK153.out)
     have n3_ := Aside0.mk (blk_drew BK159.out)
     have n4_ := Aside0.mk (blk_drew BK165.out)
     have n5_ := Aside0.mk (below_drew1 HB.out)
     clear BK142
     clear BK148
     clear BK153
     clear BK159
     clear BK165
     clear HB
     have BK142 := n0_
     have BK148 := n1_
     have BK153 := n2_
     have BK159 := n3_
     have BK165 := n4_
     have HB := n5_
     clear n0_ n1_ n2_ n3_ n4_ n5_
     refine start_ (n := 6) (S := fun w' => w'.cell? ⟨gb142, 0, none⟩ = some (.string a0_0) ∧ w'.cell? ⟨gb142, 1, none⟩ = some (.string a0_1) ∧ w'.cell? ⟨gb142, 2, none⟩ = some (.int .i64 a0_2) ∧ w'.cell? ⟨gb142, 3, none⟩ = some (.bool a0_3) ∧ w'.cell? ⟨gb159, 0, none⟩ = some (.string t154) ∧ w'.cell? ⟨gb159, 1, none⟩ = some (.string t155) ∧ w'.cell? ⟨gb159, 2, none⟩ = some (.int .i64 t156) ∧ w'.cell? ⟨gb159, 3, none⟩ = some (.bool t157)) (ds := []) #[false, false, false, false, false, false] (by kernel_rfl) rfl rfl ⟨(blk_cell BK142.out 0).trans rfl, (blk_cell BK142.out 1).trans rfl, (blk_cell BK142.out 2).trans rfl, (blk_cell BK142.out 3).trans rfl, (blk_cell BK159.out 0).trans rfl, (blk_cell BK159.out 1).trans rfl, (blk_cell BK159.out 2).trans rfl, (blk_cell BK159.out 3).trans rfl⟩ (fun hHeld => ?_)
     generalize w179.drew = w180 at BK142 BK148 BK153 BK159 BK165 HB hHeld ⊢
     refine take_ (i := 0) (N := some 43) (v := ?_) (a' := ?_) #[true, false, false, false, false, false] rfl rfl (by kernel_rfl) (fun _ _ _ h => h) (Or.inl ⟨by rfl, ?_⟩) hHeld ?_ ?_
     rotate_left
     ·
      rintro w' ⟨s0, s1, s2, s3, s4, s5, s6, s7⟩
      go_simp
      with_reducible rfl
     rotate_left
     ·
      simp only [Act.put, List.setIfInBounds_toArray, List.set_cons_zero, List.set_cons_succ, i64_w, i32_w]
      rfl
     refine take_ (i := 2) (N := some 45) (v := ?_) (a' := ?_) #[true, false, true, false, false, false] rfl rfl (by kernel_rfl) (fun _ _ _ h => h) (Or.inl ⟨by rfl, ?_⟩) hHeld ?_ ?_
     rotate_left
     ·
      rintro w' ⟨s0, s1, s2, s3, s4, s5, s6, s7⟩
      go_simp
      with_reducible rfl
     rotate_left
     ·
      simp only [Act.put, List.setIfInBounds_toArray, List.set_cons_zero, List.set_cons_succ, i64_w, i32_w]
      rfl
     refine one_ (i := 1) (N := some 44) #[true, true, true, false, false, false] rfl rfl (by kernel_rfl) (by decide) (fun K hK => ?_)
     refine goes_ Try.func40 (by kernel_rfl) rfl #[.agg #[.string a0_0, .string a0_1, .int .i64 a0_2, .bool a0_3]] (by rfl) rfl rfl (by (try simp only [List.map_toArray, List.map_cons, List.map_nil]); first | done | rfl | (simp only [List.length_drop, List.length_take]; rfl)) ?_
     with_reducible refine (paper_Records.calls kj4 a0_0 a0_1 a0_2 a0_3 t166 _ A16.out).mono ?_
     rintro e w181 ⟨v167, rfl, ho0, hb⟩
     refine ⟨_, rfl, ?_⟩
     have n0_ := Aside0.mk (Kd.R_lower ho0 (below_size (by repeat (first | (with_reducible first | exact HB.out | apply below_alloc | apply pw_below_drewN | apply below_drew1 | refine below_set ?_ GE142.out | refine below_set ?_ GE148.out | refine below_set ?_ GE153.out | refine below_set ?_ GE159.out | refine below_set ?_ GE165.out) | exact HB.out))))
     have n1_ := Aside0.mk (blk_below (g := gb142) (o := .cells #[.string a0_0, .string a0_1, .int .i64 a0_2, .bool a0_3] 60 (0, 0)) (pB BK142.out) hb)
     have n2_ := Aside0.mk (blk_below (g := gb148) (o := .cells #[.string t144, .string t145, .int .i64 t146, .bool t147] 60 (0, 0)) (pB BK148.out) hb)
     have n3_ := Aside0.mk (blk_below (g := gb153) (o := .cells #[.string t149, .string t150, .int .i64 t151, .bool t152] 60 (0, 0)) (pB BK153.out) hb)
     have n4_ := Aside0.mk (blk_below (g := gb159) (o := .cells #[.string t154, .string t155, .int .i64 t156, .bool t157] 60 (0, 0)) (pB BK159.out) hb)
     have n5_ := Aside0.mk (blk_below (g := gb165) (o := .cells #[.string t160, .string t161, .int .i64 t162, .bool t163] 60 (0, 0)) (pB BK165.out) hb)
     have n6_ := Aside0.mk (below_step (by repeat (first | (with_reducible first | exact HB.out | apply below_alloc | apply pw_below_drewN | apply below_drew1 | refine below_set ?_ GE142.out | refine below_set ?_ GE148.out | refine below_set ?_ GE153.out | refine below_set ?_ GE159.out | refine below_set ?_ GE165.out) | exact HB.out)) hb)
     clear BK142
     clear BK148
     clear BK153
     clear BK159
     clear BK165
     clear HB
     have HO168 := n0_
     have BK142 := n1_
     have BK148 := n2_
     have BK153 := n3_
     have BK159 := n4_
     have BK165 := n5_
     have HB := n6_
     clear n0_ n1_ n2_ n3_ n4_ n5_ n6_
     (try clear hb)
     (try clear hb2)
     (try clear hk)
     (try clear hi)
     (try clear ho0)
     refine hK.out _ _ ⟨(blk_cell BK142.out 0).trans rfl, (blk_cell BK142.out 1).trans rfl, (blk_cell BK142.out 2).trans rfl, (blk_cell BK142.out 3).trans rfl, (blk_cell BK159.out 0).trans rfl, (blk_cell BK159.out 1).trans rfl, (blk_cell BK159.out 2).trans rfl, (blk_cell BK159.out 3).trans rfl⟩ (fun hHeld => ?_)
     clear hK K
     refine norm_ (a' := ?_) ?_ ?_
     rotate_left
     ·
      show Act.put _ (some 44) _ = _
      simp only [Act.put, List.setIfInBounds_toArray, List.set_cons_zero, List.set_cons_succ, i64_w, i32_w]
      rfl
     refine one_ (i := 3) (N := some 46) #[true, true, true, true, false, false] rfl rfl (by kernel_rfl) (by decide) (fun K hK => ?_)
     refine goes_ Try.func40 (by kernel_rfl) rfl #[.agg #[.string t154, .string t155, .int .i64 t156, .bool t157]] (by rfl) rfl rfl (by (try simp only [List.map_toArray, List.map_cons, List.map_nil]); first | done | rfl | (simp only [List.length_drop, List.length_take]; rfl)) ?_
     with_reducible refine (paper_Records.calls kj4 t154 t155 t156 t157 t169 _ A17.out).mono ?_
     rintro e w182 ⟨v170, rfl, ho0, hb⟩
     refine ⟨_, rfl, ?_⟩
     have n0_ := Aside0.mk (Kd.R_elder' (Kd.pR HO168.out) (Kd.R_base ho0) hb)
     have n1_ := Aside0.mk (Kd.R_lower (Kd.R_new' ho0 (Kd.R_lt (Kd.pR HO168.out))) (below_size (by repeat (first | (with_reducible first | exact HB.out | apply below_alloc | apply pw_below_drewN | apply below_drew1 | refine below_set ?_ GE142.out | refine below_set ?_ GE148.out | refine below_set ?_ GE153.out | refine below_set ?_ GE159.out | refine below_set ?_ GE165.out) | exact HB.out))))
     have n2_ := Aside0.mk (blk_below (g := gb142) (o := .cells #[.string a0_0, .string a0_1, .int .i64 a0_2, .bool a0_3] 60 (0, 0)) (pB BK142.out) hb)
     have n3_ := Aside0.mk (blk_below (g := gb148) (o := .cells #[.string t144, .string t145, .int .i64 t146, .bool t147] 60 (0, 0)) (pB BK148.out) hb)
     have n4_ := Aside0.mk (blk_below (g := gb153) (o := .cells #[.string t149, .string t150, .int .i64 t151, .bool t152] 60 (0, 0)) (pB BK153.out) hb)
     have n5_ := Aside0.mk (blk_below (g := gb159) (o := .cells #[.string t154, .string t155, .int .i64 t156, .bool t157] 60 (0, 0)) (pB BK159.out) hb)
     have n6_ := Aside0.mk (blk_below (g := gb165) (o := .cells #[.string t160, .string t161, .int .i64 t162, .bool t163] 60 (0, 0)) (pB BK165.out) hb)
     have n7_ := Aside0.mk (below_step (by repeat (first | (with_reducible first | exact HB.out | apply below_alloc | apply pw_below_drewN | apply below_drew1 | refine below_set ?_ GE142.out | refine below_set ?_ GE148.out | refine below_set ?_ GE153.out | refine below_set ?_ GE159.out | refine below_set ?_ GE165.out) | exact HB.out)) hb)
     clear HO168
     clear BK142
     clear BK148
     clear BK153
     clear BK159
     clear BK165
     clear HB
     have HO168 := n0_
     have HO171 := n1_
     have BK142 := n2_
     have BK148 := n3_
     have BK153 := n4_
     have BK159 := n5_
     have BK165 := n6_
     have HB := n7_
     clear n0_ n1_ n2_ n3_ n4_ n5_ n6_ n7_
     (try clear hb)
     (try clear hb2)
     (try clear hk)
     (try clear hi)
     (try clear ho0)
     obtain ⟨Ao183, co183, eo183⟩ := Kd.R_slice HO168.out
     (first | subst eo183 | (injection eo183 with f1_ f2_ f3_; have f4_ := f1_.symm; have f5_ := f3_.symm; clear f1_ f2_ f3_; subst f4_; subst f5_))
     obtain ⟨Ao184, co184, eo184⟩ := Kd.R_slice HO171.out
     (first | subst eo184 | (injection eo184 with f1_ f2_ f3_; have f4_ := f1_.symm; have f5_ := f3_.symm; clear f1_ f2_ f3_; subst f4_; subst f5_))
     refine hK.out _ _ ⟨(blk_cell BK142.out 0).trans rfl, (blk_cell BK142.out 1).trans rfl, (blk_cell BK142.out 2).trans rfl, (blk_cell BK142.out 3).trans rfl, (blk_cell BK159.out 0).trans rfl, (blk_cell BK159.out 1).trans rfl, (blk_cell BK159.out 2).trans rfl, (blk_cell BK159.out 3).trans rfl⟩ (fun hHeld => ?_)
     clear hK K
     refine norm_ (a' := ?_) ?_ ?_
     rotate_left
     ·
      show Act.put _ (some 46) _ = _
      simp only [Act.put, List.setIfInBounds_toArray, List.set_cons_zero, List.set_cons_succ, i64_w, i32_w]
      rfl
     refine one_ (i := 4) (N := some 47) #[true, true, true, true, true, false] rfl rfl (by kernel_rfl) (by decide) (fun K hK => ?_)
     refine goes_ Try.func28 (by kernel_rfl) rfl #[.slice Ao183 t166.length co183, .slice Ao184 t169.length co184] (by rfl) rfl rfl (by (try simp only [List.map_toArray, List.map_cons, List.map_nil]); first | done | rfl | (simp only [List.length_drop, List.length_take]; rfl)) ?_
     with_reducible refine (selvedgeref01_Same.calls kj4 _ _ t166 _ _ t169 t172 _ ?side1 ?side2 ?side3 ?side4 A18.out).mono ?_
     (case side1 => repeat (first | exact (Kd.R_reads' HO168.out).2.2 | (with_reducible refine Kd.C_alloc ?_ _) | (with_reducible refine Kd.C_drewN ?_ _) | (with_reducible refine Kd.C_drew ?_)))
     (case side2 => exact (Kd.R_reads' HO168.out).2.1)
     (case side3 => repeat (first | exact (Kd.R_reads' HO171.out).2.2 | (with_reducible refine Kd.C_alloc ?_ _) | (with_reducible refine Kd.C_drewN ?_ _) | (with_reducible refine Kd.C_drew ?_)))
     (case side4 => exact (Kd.R_reads' HO171.out).2.1)
     rintro e w' ⟨rfl, ⟨nd, rfl⟩⟩
     refine ⟨_, rfl, ?_⟩
     refine hK.out _ _ ⟨(blk_cell BK142.out 0).trans rfl, (blk_cell BK142.out 1).trans rfl, (blk_cell BK142.out 2).trans rfl, (blk_cell BK142.out 3).trans rfl, (blk_cell BK159.out 0).trans rfl, (blk_cell BK159.out 1).trans rfl, (blk_cell BK159.out 2).trans rfl, (blk_cell BK159.out 3).trans rfl⟩ (fun hHeld => ?_)
     clear hK K
     refine norm_ (a' := ?_) ?_ ?_
     rotate_left
     ·
      show Act.put _ (some 47) _ = _
      simp only [Act.put, List.setIfInBounds_toArray, List.set_cons_zero, List.set_cons_succ, i64_w, i32_w]
      rfl
     refine pure_ (i := 5) (N := some 14) (v := ?_) (a' := ?_) #[true, true, true, true, true, true] rfl rfl (by kernel_rfl) (fun _ _ _ h => h) (Or.inl ⟨by rfl, ?_⟩) ?_ ?_
     rotate_left
     ·
      intro w'
      go_simp
      with_reducible rfl
     rotate_left
     ·
      simp only [Act.put, List.setIfInBounds_toArray, List.set_cons_zero, List.set_cons_succ, i64_w, i32_w]
      rfl
     refine done_ (by kernel_rfl) ?_
     try go_wp2
     go_ret
     exact ⟨by first | rfl | (simp [errW_none, errW_some] <;> rfl) | (simp [*, errW_none, errW_some] <;> rfl), by repeat (first | (with_reducible first | exact HB.out | apply below_alloc | apply pw_below_drewN | apply below_drew1 | refine below_set ?_ GE142.out | refine below_set ?_ GE148.out | refine below_set ?_ GE153.out | refine below_set ?_ GE159.out | refine below_set ?_ GE165.out) | exact HB.out)⟩

end Go.Proofs.Ytiknkkkfkifahaa.PPaperAgain
