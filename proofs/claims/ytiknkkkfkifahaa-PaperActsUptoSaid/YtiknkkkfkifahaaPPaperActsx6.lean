-- written by a program of this session (pp.py), out of the kit's print and this session's contracts
import Derived.Test.YtiknkkkfkifahaaPPaperActsx0
import Derived.Test.YtiknkkkfkifahaaPPaperActsx1
import Derived.Test.YtiknkkkfkifahaaPPaperActsx4
import Derived.Test.YtiknkkkfkifahaaPPaperActsx5
namespace Go.Proofs.Ytiknkkkfkifahaa.PPaperActs
open Go.RowKit Go.Proofs.YtiknkkkfkifahaaW.PrintWords Go.Proofs.YtiknkkkfkifahaaW.PrintLast Go.Proofs.YtiknkkkfkifahaaW.PrintMore
attribute [local go_sem] max2_int min2_int max_two min_two max_three min_three max_four min_four   -- for this text's walks alone
set_option linter.unusedVariables false
set_option linter.unusedSimpArgs false

attribute [local go_sem high] eqA60
/-! ### selvedgelaw17_PaperActs: function 14 -/
def selvedgelaw17_PaperActs.j0 : Nat → ByteArray → Int → Int → Bool → Bool → ByteArray → ByteArray → Int → Bool → Option (Bool)
  | 0, _, _, _, _, _, _, _, _, _ => none
  | k + 1, x4, x5, x6, x7, x35, x171000, x171001, x171002, x171003 => if x35 = true then (some x7) else ((paper_Append.f x171000 x171001 x171002 x171003 x4).bind fun bt172 => ((selvedgeref17_Append.f k x171000 x171001 x171002 x171003 x4).bind fun bt178 => ((paper_Sync.f x171000 x171001 x171002 x171003).bind fun bt184 => ((selvedgeref17_Sync.f x171000 x171001 x171002 x171003).bind fun bt190 => ((paper_Records.f k x171000 x171001 x171002 x171003).bind fun t196 => ((selvedgeref17_Records.f k x171000 x171001 x171002 x171003).bind fun t199 => ((selvedgeref01_Same.f k t196 t199).bind fun t202 => (if x7 = true then (if t202 = true then (if (bt172.1.toList == bt178.1.toList && (bt172.2.1.toList == bt178.2.1.toList && (bt172.2.2.1 == bt178.2.2.1 && (bt172.2.2.2.1 == bt178.2.2.2.1)))) = true then (if bt172.2.2.2.2 = bt178.2.2.2.2 then (if (bt184.1.toList == bt190.1.toList && (bt184.2.1.toList == bt190.2.1.toList && (bt184.2.2.1 == bt190.2.2.1 && (bt184.2.2.2.1 == bt190.2.2.2.1)))) = true then (if bt184.2.2.2.2 = bt190.2.2.2.2 then ((paper_Crash.f k x171000 x171001 x171002 x171003 x5).bind fun bt203 => ((selvedgeref17_Crash.f k x171000 x171001 x171002 x171003 x5).bind fun bt207 => (if (bt203.1.toList == bt207.1.toList && (bt203.2.1.toList == bt207.2.1.toList && (bt203.2.2.1 == bt207.2.2.1 && (bt203.2.2.2 == bt207.2.2.2)))) = true then ((paper_Arm.f x171000 x171001 x171002 x171003 x6).bind fun bt211 => ((selvedgeref17_Arm.f x171000 x171001 x171002 x171003 x6).bind fun bt215 => (some (bt211.1.toList == bt215.1.toList && (bt211.2.1.toList == bt215.2.1.toList && (bt211.2.2.1 == bt215.2.2.1 && (bt211.2.2.2 == bt215.2.2.2))))))) else (some false)))) else (some false)) else (some false)) else (some false)) else (some false)) else (some false)) else (some false)))))))))
def selvedgelaw17_PaperActs.f (k : Nat) (a0_0 : ByteArray) (a0_1 : ByteArray) (a0_2 : Int) (a0_3 : Bool) (a0_4 : ByteArray) (a0_5 : Int) (a0_6 : Int) : Option (Bool) := (selvedgelaw17_shown.f k).bind fun t171 => (if (a0_0.size : Int) > 2097152 then (selvedgelaw17_PaperActs.j0 k a0_4 a0_5 a0_6 t171 true a0_0 a0_1 a0_2 a0_3) else (selvedgelaw17_PaperActs.j0 k a0_4 a0_5 a0_6 t171 (decide ((a0_1.size : Int) > 4096)) a0_0 a0_1 a0_2 a0_3))
theorem selvedgelaw17_PaperActs.mono_l : ∀ k, (∀ y0 y1 y2 y3 y4 y5 y6 y7 y8, LeO (selvedgelaw17_PaperActs.j0 k y0 y1 y2 y3 y4 y5 y6 y7 y8) (selvedgelaw17_PaperActs.j0 (k + 1) y0 y1 y2 y3 y4 y5 y6 y7 y8))
  | 0 => fun _ _ _ _ _ _ _ _ _ r h => by simp [selvedgelaw17_PaperActs.j0] at h
  | k + 1 => by
    have ih0 := selvedgelaw17_PaperActs.mono_l k
    · intro y0 y1 y2 y3 y4 y5 y6 y7 y8
      unfold selvedgelaw17_PaperActs.j0
      repeat' first
      | (with_reducible exact ih0 _ _ _ _ _ _ _ _ _)
      | (with_reducible exact paper_Crash.mono _ _ _ _ _ _)
      | (with_reducible exact paper_Records.mono _ _ _ _ _)
      | (with_reducible exact selvedgelaw17_shown.mono _)
      | (with_reducible exact selvedgeref01_Same.mono _ _ _)
      | (with_reducible exact selvedgeref17_Append.mono _ _ _ _ _ _)
      | (with_reducible exact selvedgeref17_Crash.mono _ _ _ _ _ _)
      | (with_reducible exact selvedgeref17_Records.mono _ _ _ _ _)
      | (with_reducible exact LeO.refl _)
      | (with_reducible exact LeO.none _)
      | (with_reducible refine LeO.ite ?_ ?_)
      | (with_reducible refine LeO.bind ?_ (fun _ => ?_))
      | exact ih0 _ _ _ _ _ _ _ _ _
      | exact paper_Crash.mono _ _ _ _ _ _
      | exact paper_Records.mono _ _ _ _ _
      | exact selvedgelaw17_shown.mono _
      | exact selvedgeref01_Same.mono _ _ _
      | exact selvedgeref17_Append.mono _ _ _ _ _ _
      | exact selvedgeref17_Crash.mono _ _ _ _ _ _
      | exact selvedgeref17_Records.mono _ _ _ _ _
      | exact LeO.none _
      | refine LeO.ite ?_ ?_
      | refine LeO.bind ?_ (fun _ => ?_)
theorem selvedgelaw17_PaperActs.mono : ∀ a0 a1 a2 a3 a4 a5 a6 k, LeO (selvedgelaw17_PaperActs.f k a0 a1 a2 a3 a4 a5 a6) (selvedgelaw17_PaperActs.f (k + 1) a0 a1 a2 a3 a4 a5 a6) := by
  intro a0 a1 a2 a3 a4 a5 a6 k
  have ih0 := selvedgelaw17_PaperActs.mono_l k
  unfold selvedgelaw17_PaperActs.f
  repeat' first
      | (with_reducible exact ih0 _ _ _ _ _ _ _ _ _)
      | (with_reducible exact paper_Crash.mono _ _ _ _ _ _)
      | (with_reducible exact paper_Records.mono _ _ _ _ _)
      | (with_reducible exact selvedgelaw17_shown.mono _)
      | (with_reducible exact selvedgeref01_Same.mono _ _ _)
      | (with_reducible exact selvedgeref17_Append.mono _ _ _ _ _ _)
      | (with_reducible exact selvedgeref17_Crash.mono _ _ _ _ _ _)
      | (with_reducible exact selvedgeref17_Records.mono _ _ _ _ _)
      | (with_reducible exact LeO.refl _)
      | (with_reducible exact LeO.none _)
      | (with_reducible refine LeO.ite ?_ ?_)
      | (with_reducible refine LeO.bind ?_ (fun _ => ?_))
      | exact ih0 _ _ _ _ _ _ _ _ _
      | exact paper_Crash.mono _ _ _ _ _ _
      | exact paper_Records.mono _ _ _ _ _
      | exact selvedgelaw17_shown.mono _
      | exact selvedgeref01_Same.mono _ _ _
      | exact selvedgeref17_Append.mono _ _ _ _ _ _
      | exact selvedgeref17_Crash.mono _ _ _ _ _ _
      | exact selvedgeref17_Records.mono _ _ _ _ _
      | exact LeO.none _
      | refine LeO.ite ?_ ?_
      | refine LeO.bind ?_ (fun _ => ?_)
def selvedgelaw17_PaperActs.T13 : Bool × List (List Nat × List Nat) := (true, [([], []), ([0], [0]), ([1], [1]), ([1, 2], [1, 2]), ([3, 1], [3]), ([4], [4]), ([4], [4]), ([5, 6, 4], [4, 5, 6]), ([4, 7], [4, 7]), ([8, 4], [8]), ([9], [9]), ([9], [9]), ([10, 11, 9], [9, 10, 11]), ([9, 12], [9, 12]), ([13, 9], [13]), ([14], [14]), ([14], [14]), ([15, 16, 14], [14, 15, 16]), ([14, 17], [14, 17]), ([18, 14], [18]), ([19], [19]), ([19], [19]), ([20, 21, 19], [19, 20, 21]), ([19, 22], [19, 22]), ([23, 19], [23]), ([24], [24]), ([24], [24]), ([25, 26, 24, 24], [24, 25, 26]), ([24], [24]), ([24], [24]), ([28, 29, 27, 24], [24, 28, 29]), ([27, 30, 24], [24, 27, 30]), ([24, 31], [24, 31]), ([32, 30], [32]), ([33], [33]), ([33], [33]), ([34, 35, 33, 33], [33, 34, 35]), ([33], [33]), ([33], [33]), ([37, 38, 36, 33], [33, 37, 38]), ([36, 39, 33], [33, 36, 39]), ([33, 40], [33, 40]), ([41, 39, 0, 1, 2, 3, 4, 5, 6, 7, 8, 9, 10, 11, 12, 13, 14, 15, 16, 17, 18, 19, 20, 21, 22, 23, 24, 25, 26, 27, 28, 29, 30, 31, 32, 33, 34, 35, 36, 37, 38, 39, 40, 41], [41])])
def selvedgelaw17_PaperActs.B13 : List Nat := [0, 1, 3, 7, 15, 31, 31, 127, 255, 511, 1023, 1023, 4095, 8191, 16383, 32767, 32767, 131071, 262143, 524287, 1048575, 1048575, 4194303, 8388607, 16777215, 33554431, 33554431, 134217727, 33554431, 33554431, 1073741823, 2147483647, 4294967295, 8589934591, 17179869183, 17179869183, 68719476735, 17179869183, 17179869183, 549755813887, 1099511627775, 2199023255551, 4398046511103]
theorem selvedgelaw17_PaperActs.tab13 : rtab .any (opsOf Try.f14 13) = selvedgelaw17_PaperActs.T13 := by kernel_rfl
theorem selvedgelaw17_PaperActs.bits13 : waitsOk selvedgelaw17_PaperActs.T13.2 selvedgelaw17_PaperActs.B13 = true := by kernel_rfl
set_option maxHeartbeats 8000000 in
set_option maxRecDepth 100000 in
theorem selvedgelaw17_PaperActs.calls (k : Nat) (a0_0 : ByteArray) (a0_1 : ByteArray) (a0_2 : Int) (a0_3 : Bool) (a0_4 : ByteArray) (a0_5 : Int) (a0_6 : Int) (r : Bool) (hr_ : r = true) (w : World) (h : selvedgelaw17_PaperActs.f k a0_0 a0_1 a0_2 a0_3 a0_4 a0_5 a0_6 = some r) :
    Calls Try.prog 14 #[.agg #[.string a0_0, .string a0_1, .int .i64 a0_2, .bool a0_3, .string a0_4, .int .i64 a0_5, .int .i64 a0_6]] w fun e w' => e = .returned (.bool r) ∧ Below w.heap.size w w' := by
  have HRT_ := Aside0.mk hr_
  clear hr_
  have hu69 := Try.underlying69
  have hu60 := Try.underlying60
  have HB := Aside0.mk (Below.refl w.heap.size w)
  have H : ((selvedgelaw17_shown.f k).bind fun t171 => (if (a0_0.size : Int) > 2097152 then (selvedgelaw17_PaperActs.j0 k a0_4 a0_5 a0_6 t171 true a0_0 a0_1 a0_2 a0_3) else (selvedgelaw17_PaperActs.j0 k a0_4 a0_5 a0_6 t171 (decide ((a0_1.size : Int) > 4096)) a0_0 a0_1 a0_2 a0_3))) = some r := h
  clear h
  replace H := Option.bind_eq_some_iff.mp H
  obtain ⟨t171, A20, H⟩ := H
  replace H : (if (a0_0.size : Int) > 2097152 then (selvedgelaw17_PaperActs.j0 k a0_4 a0_5 a0_6 t171 true a0_0 a0_1 a0_2 a0_3) else (selvedgelaw17_PaperActs.j0 k a0_4 a0_5 a0_6 t171 (decide ((a0_1.size : Int) > 4096)) a0_0 a0_1 a0_2 a0_3)) = some r := H
  have A2 := Aside0.mk A20
  clear A20
  have HC3 := Aside0.mk H
  clear H
  go_enter Try.func14, Try.ntmps14
  go_upto_region 6 with (first | ((with_reducible refine gate_dst (N := 1) rfl ?_); (try (refine gate_guard (by rfl) ?_; dsimp only)); refine box_event ?hg (N := 1) ?hd (cs := #[.string a0_0, .string a0_1, .int .i64 a0_2, .bool a0_3, .string a0_4, .int .i64 a0_5, .int .i64 a0_6]) (t := 69) ?hr ?_; (case hd => rfl); (case hg => rfl); (case hr => first | (go_simp; done) | (go_simp; rfl)); intro gb169 hg w4 hbox hb; have n0_ := Aside0.mk (below_step (by repeat (first | (with_reducible first | exact HB.out | apply below_alloc | apply pw_below_drewN | apply below_drew1) | exact HB.out)) hb); have n1_ := Aside0.mk (hbox); have n2_ := Aside0.mk ((by rw [hg]; exact (below_size (by repeat (first | (with_reducible first | exact HB.out | apply below_alloc | apply pw_below_drewN | apply below_drew1) | exact HB.out))) : w.heap.size ≤ gb169)); have n3_ := Aside0.mk ((by rw [hg]; exact (below_size (by repeat (first | (with_reducible first | exact HB.out | apply below_alloc | apply pw_below_drewN | apply below_drew1) | exact HB.out))) : w.heap.size ≤ gb169)); clear HB; have HB := n0_; have BK169 := n1_; have GW169 := n2_; have GE169 := n3_; clear n0_ n1_ n2_ n3_; clear hb hbox hg; have hcz5_0 : w4.cell? ⟨gb169, 0, none⟩ = some (.string a0_0) := (blk_cell BK169.out 0).trans rfl; have hcz5_1 : w4.cell? ⟨gb169, 1, none⟩ = some (.string a0_1) := (blk_cell BK169.out 1).trans rfl; have hcz5_2 : w4.cell? ⟨gb169, 2, none⟩ = some (.int .i64 a0_2) := (blk_cell BK169.out 2).trans rfl; have hcz5_3 : w4.cell? ⟨gb169, 3, none⟩ = some (.bool a0_3) := (blk_cell BK169.out 3).trans rfl; have hcz5_4 : w4.cell? ⟨gb169, 4, none⟩ = some (.string a0_4) := (blk_cell BK169.out 4).trans rfl; have hcz5_5 : w4.cell? ⟨gb169, 5, none⟩ = some (.int .i64 a0_5) := (blk_cell BK169.out 5).trans rfl; have hcz5_6 : w4.cell? ⟨gb169, 6, none⟩ = some (.int .i64 a0_6) := (blk_cell BK169.out 6).trans rfl; have hfz5_0 := blk_frozen BK169.out 0; have hfz5_1 := blk_frozen BK169.out 1; have hfz5_2 := blk_frozen BK169.out 2; have hfz5_3 := blk_frozen BK169.out 3; have hfz5_4 := blk_frozen BK169.out 4; have hfz5_5 := blk_frozen BK169.out 5; have hfz5_6 := blk_frozen BK169.out 6) | ((with_reducible refine gate_dst (N := 3) rfl ?_); (try (refine gate_guard (by rfl) ?_; dsimp only)); refine box_event ?hg (N := 3) ?hd (cs := #[.string (⟨#[]⟩ : ByteArray), .string (⟨#[]⟩ : ByteArray), .int .i64 0, .bool false]) (t := 60) ?hr ?_; (case hd => rfl); (case hg => rfl); (case hr => first | (go_simp; done) | (go_simp; rfl)); intro gb170 hg w6 hbox hb; have n0_ := Aside0.mk (blk_below (g := gb169) (o := .cells #[.string a0_0, .string a0_1, .int .i64 a0_2, .bool a0_3, .string a0_4, .int .i64 a0_5, .int .i64 a0_6] 69 (0, 0)) (by (with_reducible repeat (first | refine blk_drewN ?_ _ | refine blk_drew ?_ | refine blk_alloc ?_ _)); exact BK169.out) hb); have n1_ := Aside0.mk (below_step (by repeat (first | (with_reducible first | exact HB.out | apply below_alloc | apply pw_below_drewN | apply below_drew1 | refine below_set ?_ GE169.out) | exact HB.out)) hb); have n2_ := Aside0.mk (hbox); have n3_ := Aside0.mk ((by rw [hg]; exact (below_size (by repeat (first | (with_reducible first | exact HB.out | apply below_alloc | apply pw_below_drewN | apply below_drew1 | refine below_set ?_ GE169.out) | exact HB.out))) : w.heap.size ≤ gb170)); have n4_ := Aside0.mk ((by rw [hg]; exact (below_size (by repeat (first | (with_reducible first | exact HB.out | apply below_alloc | apply pw_below_drewN | apply below_drew1 | refine below_set ?_ GE169.out) | exact HB.out))) : w.heap.size ≤ gb170)); have n5_ := Aside0.mk ((by rw [hg]; exact Nat.ne_of_lt (blk_lt (g := gb169) (o := .cells #[.string a0_0, .string a0_1, .int .i64 a0_2, .bool a0_3, .string a0_4, .int .i64 a0_5, .int .i64 a0_6] 69 (0, 0)) (by (with_reducible repeat (first | refine blk_drewN ?_ _ | refine blk_drew ?_ | refine blk_alloc ?_ _)); exact BK169.out)) : gb169 ≠ gb170)); have n6_ := Aside0.mk ((by rw [hg]; exact Nat.ne_of_gt (blk_lt (g := gb169) (o := .cells #[.string a0_0, .string a0_1, .int .i64 a0_2, .bool a0_3, .string a0_4, .int .i64 a0_5, .int .i64 a0_6] 69 (0, 0)) (by (with_reducible repeat (first | refine blk_drewN ?_ _ | refine blk_drew ?_ | refine blk_alloc ?_ _)); exact BK169.out)) : gb170 ≠ gb169)); clear BK169; clear HB; have BK169 := n0_; have HB := n1_; have BK170 := n2_; have GW170 := n3_; have GE170 := n4_; have NB169_170 := n5_; have NB170_169 := n6_; clear n0_ n1_ n2_ n3_ n4_ n5_ n6_; clear hb hbox hg; have hnb7 := NB170_169.out; have hnc7 := NB169_170.out; have hcz8_0 : w6.cell? ⟨gb170, 0, none⟩ = some (.string (⟨#[]⟩ : ByteArray)) := (blk_cell BK170.out 0).trans rfl; have hcz8_1 : w6.cell? ⟨gb170, 1, none⟩ = some (.string (⟨#[]⟩ : ByteArray)) := (blk_cell BK170.out 1).trans rfl; have hcz8_2 : w6.cell? ⟨gb170, 2, none⟩ = some (.int .i64 0) := (blk_cell BK170.out 2).trans rfl; have hcz8_3 : w6.cell? ⟨gb170, 3, none⟩ = some (.bool false) := (blk_cell BK170.out 3).trans rfl; have hfz8_0 := blk_frozen BK170.out 0; have hfz8_1 := blk_frozen BK170.out 1; have hfz8_2 := blk_frozen BK170.out 2; have hfz8_3 := blk_frozen BK170.out 3; have hcz9_0 : w6.cell? ⟨gb169, 0, none⟩ = some (.string a0_0) := (blk_cell BK169.out 0).trans rfl; have hcz9_1 : w6.cell? ⟨gb169, 1, none⟩ = some (.string a0_1) := (blk_cell BK169.out 1).trans rfl; have hcz9_2 : w6.cell? ⟨gb169, 2, none⟩ = some (.int .i64 a0_2) := (blk_cell BK169.out 2).trans rfl; have hcz9_3 : w6.cell? ⟨gb169, 3, none⟩ = some (.bool a0_3) := (blk_cell BK169.out 3).trans rfl; have hcz9_4 : w6.cell? ⟨gb169, 4, none⟩ = some (.string a0_4) := (blk_cell BK169.out 4).trans rfl; have hcz9_5 : w6.cell? ⟨gb169, 5, none⟩ = some (.int .i64 a0_5) := (blk_cell BK169.out 5).trans rfl; have hcz9_6 : w6.cell? ⟨gb169, 6, none⟩ = some (.int .i64 a0_6) := (blk_cell BK169.out 6).trans rfl; have hfz9_0 := blk_frozen BK169.out 0; have hfz9_1 := blk_frozen BK169.out 1; have hfz9_2 := blk_frozen BK169.out 2; have hfz9_3 := blk_frozen BK169.out 3; have hfz9_4 := blk_frozen BK169.out 4; have hfz9_5 := blk_frozen BK169.out 5; have hfz9_6 := blk_frozen BK169.out 6) | ((with_reducible refine gate_callee (f := 31) rfl ?_); refine goesL_ (some 25) rfl rfl Try.func31 (by kernel_rfl) rfl #[] rfl (by (try simp only [List.map_toArray, List.map_cons, List.map_nil]); first | done | rfl | (simp only [List.length_drop, List.length_take]; rfl)) ?_; (with_reducible refine (selvedgelaw17_shown.calls k  t171 _ A2.out).mono ?_); rintro e w10 ⟨rfl, hb⟩; refine ⟨_, rfl, ?_⟩; have n0_ := Aside0.mk (blk_below (g := gb169) (o := .cells #[.string a0_0, .string a0_1, .int .i64 a0_2, .bool a0_3, .string a0_4, .int .i64 a0_5, .int .i64 a0_6] 69 (0, 0)) (by (with_reducible repeat (first | refine blk_drewN ?_ _ | refine blk_drew ?_ | refine blk_alloc ?_ _)); refine blk_far ?_ NB169_170.out _; (with_reducible repeat (first | refine blk_drewN ?_ _ | refine blk_drew ?_ | refine blk_alloc ?_ _)); refine blk_far ?_ NB169_170.out _; (with_reducible repeat (first | refine blk_drewN ?_ _ | refine blk_drew ?_ | refine blk_alloc ?_ _)); refine blk_far ?_ NB169_170.out _; (with_reducible repeat (first | refine blk_drewN ?_ _ | refine blk_drew ?_ | refine blk_alloc ?_ _)); refine blk_far ?_ NB169_170.out _; (with_reducible repeat (first | refine blk_drewN ?_ _ | refine blk_drew ?_ | refine blk_alloc ?_ _)); exact BK169.out) hb); have n1_ := Aside0.mk (blk_below (g := gb170) (o := .cells #[.string a0_0, .string a0_1, .int .i64 a0_2, .bool a0_3] 60 (0, 0)) (by (with_reducible repeat (first | refine blk_drewN ?_ _ | refine blk_drew ?_ | refine blk_alloc ?_ _)); refine blk_put (cs := #[.string a0_0, .string a0_1, .int .i64 a0_2, .bool false]) ?_ 3 _ rfl; (with_reducible repeat (first | refine blk_drewN ?_ _ | refine blk_drew ?_ | refine blk_alloc ?_ _)); refine blk_put (cs := #[.string a0_0, .string a0_1, .int .i64 0, .bool false]) ?_ 2 _ rfl; (with_reducible repeat (first | refine blk_drewN ?_ _ | refine blk_drew ?_ | refine blk_alloc ?_ _)); refine blk_put (cs := #[.string a0_0, .string (⟨#[]⟩ : ByteArray), .int .i64 0, .bool false]) ?_ 1 _ rfl; (with_reducible repeat (first | refine blk_drewN ?_ _ | refine blk_drew ?_ | refine blk_alloc ?_ _)); refine blk_put (cs := #[.string (⟨#[]⟩ : ByteArray), .string (⟨#[]⟩ : ByteArray), .int .i64 0, .bool false]) ?_ 0 _ rfl; (with_reducible repeat (first | refine blk_drewN ?_ _ | refine blk_drew ?_ | refine blk_alloc ?_ _)); exact BK170.out) hb); have n2_ := Aside0.mk (below_step (by repeat (first | (with_reducible first | exact HB.out | apply below_alloc | apply pw_below_drewN | apply below_drew1 | refine below_set ?_ GE169.out | refine below_set ?_ GE170.out) | exact HB.out)) hb); clear BK169; clear BK170; clear HB; have BK169 := n0_; have BK170 := n1_; have HB := n2_; clear n0_ n1_ n2_; (try clear hb); (try clear hb2); (try clear hk); (try clear hi)))
  (try simp only [Act.put, List.setIfInBounds_toArray, List.set_cons_zero, List.set_cons_succ])
  go_cut [35] (fun v35 wc => ∃ (kq : Nat) (x35_2 : Bool), v35 = .bool x35_2 ∧ Aside0 (selvedgelaw17_PaperActs.j0 kq a0_4 a0_5 a0_6 t171 x35_2 a0_0 a0_1 a0_2 a0_3 = some r) ∧ Aside0 (kq ≤ k) ∧ Aside0 (wc.heap[gb169]? = some (.cells #[.string a0_0, .string a0_1, .int .i64 a0_2, .bool a0_3, .string a0_4, .int .i64 a0_5, .int .i64 a0_6] 69 (0, 0))) ∧ Aside0 (wc.heap[gb170]? = some (.cells #[.string a0_0, .string a0_1, .int .i64 a0_2, .bool a0_3] 60 (0, 0))) ∧ Aside0 (Below w.heap.size w wc))
  case first =>
    have H := HC3.out
    clear HC3
    by_cases c11 : (a0_0.size : Int) > 2097152
    · rw [if_pos c11] at H
      have c11b0 : decide (2097152 < (a0_0.size : Int)) = true := decide_eq_true c11
      have c11b1 : decide (2097152 < a0_0.size) = true := decide_eq_true (by omega)
      clear c11
      (first | rw [c11b0] | (simp only [i64_w, i32_w]; rw [c11b0]) | skip)
      have H' := Aside0.mk H
      clear H
      have hnb12 := NB170_169.out
      have hnc12 := NB169_170.out
      have hcz13_0 : w10.cell? ⟨gb170, 0, none⟩ = some (.string a0_0) := (blk_cell BK170.out 0).trans rfl
      have hcz13_1 : w10.cell? ⟨gb170, 1, none⟩ = some (.string a0_1) := (blk_cell BK170.out 1).trans rfl
      have hcz13_2 : w10.cell? ⟨gb170, 2, none⟩ = some (.int .i64 a0_2) := (blk_cell BK170.out 2).trans rfl
      have hcz13_3 : w10.cell? ⟨gb170, 3, none⟩ = some (.bool a0_3) := (blk_cell BK170.out 3).trans rfl
      have hfz13_0 := blk_frozen BK170.out 0
      have hfz13_1 := blk_frozen BK170.out 1
      have hfz13_2 := blk_frozen BK170.out 2
      have hfz13_3 := blk_frozen BK170.out 3
      go_wp2
      go_meet
      case rel => exact ⟨_, (true), (by first | rfl | (simp; done) | (simp [*]; done)), H', ⟨by first | omega | exact Nat.le_refl _⟩, ⟨by (with_reducible repeat (first | refine blk_drewN ?_ _ | refine blk_drew ?_ | refine blk_alloc ?_ _)); exact BK169.out⟩, ⟨by (with_reducible repeat (first | refine blk_drewN ?_ _ | refine blk_drew ?_ | refine blk_alloc ?_ _)); exact BK170.out⟩, ⟨by repeat (first | (with_reducible first | exact HB.out | apply below_alloc | apply pw_below_drewN | apply below_drew1 | refine below_set ?_ GE169.out | refine below_set ?_ GE170.out) | exact HB.out)⟩⟩
    · rw [if_neg c11] at H
      have c11b0 : decide (2097152 < (a0_0.size : Int)) = false := decide_eq_false c11
      have c11b1 : decide (2097152 < a0_0.size) = false := decide_eq_false (by omega)
      clear c11
      (first | rw [c11b0] | (simp only [i64_w, i32_w]; rw [c11b0]) | skip)
      have H' := Aside0.mk H
      clear H
      have hnb14 := NB170_169.out
      have hnc14 := NB169_170.out
      have hcz15_0 : w10.cell? ⟨gb170, 0, none⟩ = some (.string a0_0) := (blk_cell BK170.out 0).trans rfl
      have hcz15_1 : w10.cell? ⟨gb170, 1, none⟩ = some (.string a0_1) := (blk_cell BK170.out 1).trans rfl
      have hcz15_2 : w10.cell? ⟨gb170, 2, none⟩ = some (.int .i64 a0_2) := (blk_cell BK170.out 2).trans rfl
      have hcz15_3 : w10.cell? ⟨gb170, 3, none⟩ = some (.bool a0_3) := (blk_cell BK170.out 3).trans rfl
      have hfz15_0 := blk_frozen BK170.out 0
      have hfz15_1 := blk_frozen BK170.out 1
      have hfz15_2 := blk_frozen BK170.out 2
      have hfz15_3 := blk_frozen BK170.out 3
      go_wp2
      go_meet
      case rel => exact ⟨_, (decide ((a0_1.size : Int) > 4096)), (by first | rfl | (simp; done) | (simp [*]; done)), H', ⟨by first | omega | exact Nat.le_refl _⟩, ⟨by (with_reducible repeat (first | refine blk_drewN ?_ _ | refine blk_drew ?_ | refine blk_alloc ?_ _)); exact BK169.out⟩, ⟨by (with_reducible repeat (first | refine blk_drewN ?_ _ | refine blk_drew ?_ | refine blk_alloc ?_ _)); exact BK170.out⟩, ⟨by repeat (first | (with_reducible first | exact HB.out | apply below_alloc | apply pw_below_drewN | apply below_drew1 | refine below_set ?_ GE169.out | refine below_set ?_ GE170.out) | exact HB.out)⟩⟩
  case rest =>
    clear HC3
    try clear c1
    try clear p2
    try clear c3
    try clear c7
    try clear c11
    try clear c11b0
    try clear c11b1
    try clear c12
    try clear c14
    try clear hcz13_0
    try clear hcz13_1
    try clear hcz13_2
    try clear hcz13_3
    try clear hcz15_0
    try clear hcz15_1
    try clear hcz15_2
    try clear hcz15_3
    try clear hcz5_0
    try clear hcz5_1
    try clear hcz5_2
    try clear hcz5_3
    try clear hcz5_4
    try clear hcz5_5
    try clear hcz5_6
    try clear hcz8_0
    try clear hcz8_1
    try clear hcz8_2
    try clear hcz8_3
    try clear hcz9_0
    try clear hcz9_1
    try clear hcz9_2
    try clear hcz9_3
    try clear hcz9_4
    try clear hcz9_5
    try clear hcz9_6
    try clear hfz13_0
    try clear hfz13_1
    try clear hfz13_2
    try clear hfz13_3
    try clear hfz15_0
    try clear hfz15_1
    try clear hfz15_2
    try clear hfz15_3
    try clear hfz5_0
    try clear hfz5_1
    try clear hfz5_2
    try clear hfz5_3
    try clear hfz5_4
    try clear hfz5_5
    try clear hfz5_6
    try clear hfz8_0
    try clear hfz8_1
    try clear hfz8_2
    try clear hfz8_3
    try clear hfz9_0
    try clear hfz9_1
    try clear hfz9_2
    try clear hfz9_3
    try clear hfz9_4
    try clear hfz9_5
    try clear hfz9_6
    obtain ⟨kq, x35_2, rfl, HA, HJ2, BK169, BK170, HB⟩ := hcut
    cases kq with
    | zero => exact absurd HA.out (by simp [selvedgelaw17_PaperActs.j0])
    | succ kj2 =>
      have H := HA.out
      clear HA
      simp only [selvedgelaw17_PaperActs.j0] at H
      by_cases c16 : x35_2 = true
      · subst c16
        have H1 : (some t171) = some r := by rw [if_pos rfl] at H; exact H
        clear H
        have H := H1
        clear H1
        obtain rfl := Option.some.inj H
        go_wp2
        go_ret
        exact ⟨by first | rfl | (simp [errW_none, errW_some] <;> rfl) | (simp [*, errW_none, errW_some] <;> rfl), by repeat (first | (with_reducible first | exact HB.out | apply below_alloc | apply pw_below_drewN | apply below_drew1 | refine below_set ?_ GE169.out | refine below_set ?_ GE170.out) | exact HB.out)⟩
      · replace c16 := Bool.eq_false_iff.mpr c16
        subst c16
        have H1 : ((paper_Append.f a0_0 a0_1 a0_2 a0_3 a0_4).bind fun bt172 => ((selvedgeref17_Append.f kj2 a0_0 a0_1 a0_2 a0_3 a0_4).bind fun bt178 => ((paper_Sync.f a0_0 a0_1 a0_2 a0_3).bind fun bt184 => ((selvedgeref17_Sync.f a0_0 a0_1 a0_2 a0_3).bind fun bt190 => ((paper_Records.f kj2 a0_0 a0_1 a0_2 a0_3).bind fun t196 => ((selvedgeref17_Records.f kj2 a0_0 a0_1 a0_2 a0_3).bind fun t199 => ((selvedgeref01_Same.f kj2 t196 t199).bind fun t202 => (if t171 = true then (if t202 = true then (if (bt172.1.toList == bt178.1.toList && (bt172.2.1.toList == bt178.2.1.toList && (bt172.2.2.1 == bt178.2.2.1 && (bt172.2.2.2.1 == bt178.2.2.2.1)))) = true then (if bt172.2.2.2.2 = bt178.2.2.2.2 then (if (bt184.1.toList == bt190.1.toList && (bt184.2.1.toList == bt190.2.1.toList && (bt184.2.2.1 == bt190.2.2.1 && (bt184.2.2.2.1 == bt190.2.2.2.1)))) = true then (if bt184.2.2.2.2 = bt190.2.2.2.2 then ((paper_Crash.f kj2 a0_0 a0_1 a0_2 a0_3 a0_5).bind fun bt203 => ((selvedgeref17_Crash.f kj2 a0_0 a0_1 a0_2 a0_3 a0_5).bind fun bt207 => (if (bt203.1.toList == bt207.1.toList && (bt203.2.1.toList == bt207.2.1.toList && (bt203.2.2.1 == bt207.2.2.1 && (bt203.2.2.2 == bt207.2.2.2)))) = true then ((paper_Arm.f a0_0 a0_1 a0_2 a0_3 a0_6).bind fun bt211 => ((selvedgeref17_Arm.f a0_0 a0_1 a0_2 a0_3 a0_6).bind fun bt215 => (some (bt211.1.toList == bt215.1.toList && (bt211.2.1.toList == bt215.2.1.toList && (bt211.2.2.1 == bt215.2.2.1 && (bt211.2.2.2 == bt215.2.2.2))))))) else (some false)))) else (some false)) else (some false)) else (some false)) else (some false)) else (some false)) else (some false))))))))) = some r := by rw [if_neg (show ¬ (false = true) by decide)] at H; exact H
        clear H
        have H := H1
        clear H1
        replace H := Option.bind_eq_some_iff.mp H
        obtain ⟨⟨t172, t173, t174, t175, t176⟩, A170, H⟩ := H
        replace H : ((selvedgeref17_Append.f kj2 a0_0 a0_1 a0_2 a0_3 a0_4).bind fun bt178 => ((paper_Sync.f a0_0 a0_1 a0_2 a0_3).bind fun bt184 => ((selvedgeref17_Sync.f a0_0 a0_1 a0_2 a0_3).bind fun bt190 => ((paper_Records.f kj2 a0_0 a0_1 a0_2 a0_3).bind fun t196 => ((selvedgeref17_Records.f kj2 a0_0 a0_1 a0_2 a0_3).bind fun t199 => ((selvedgeref01_Same.f kj2 t196 t199).bind fun t202 => (if t171 = true then (if t202 = true then (if (t172.toList == bt178.1.toList && (t173.toList == bt178.2.1.toList && (t174 == bt178.2.2.1 && (t175 == bt178.2.2.2.1)))) = true then (if t176 = bt178.2.2.2.2 then (if (bt184.1.toList == bt190.1.toList && (bt184.2.1.toList == bt190.2.1.toList && (bt184.2.2.1 == bt190.2.2.1 && (bt184.2.2.2.1 == bt190.2.2.2.1)))) = true then (if bt184.2.2.2.2 = bt190.2.2.2.2 then ((paper_Crash.f kj2 a0_0 a0_1 a0_2 a0_3 a0_5).bind fun bt203 => ((selvedgeref17_Crash.f kj2 a0_0 a0_1 a0_2 a0_3 a0_5).bind fun bt207 => (if (bt203.1.toList == bt207.1.toList && (bt203.2.1.toList == bt207.2.1.toList && (bt203.2.2.1 == bt207.2.2.1 && (bt203.2.2.2 == bt207.2.2.2)))) = true then ((paper_Arm.f a0_0 a0_1 a0_2 a0_3 a0_6).bind fun bt211 => ((selvedgeref17_Arm.f a0_0 a0_1 a0_2 a0_3 a0_6).bind fun bt215 => (some (bt211.1.toList == bt215.1.toList && (bt211.2.1.toList == bt215.2.1.toList && (bt211.2.2.1 == bt215.2.2.1 && (bt211.2.2.2 == bt215.2.2.2))))))) else (some false)))) else (some false)) else (some false)) else (some false)) else (some false)) else (some false)) else (some false)))))))) = some r := H
        have A17 := Aside0.mk A170
        clear A170
        replace H := Option.bind_eq_some_iff.mp H
        obtain ⟨⟨t178, t179, t180, t181, t182⟩, A180, H⟩ := H
        replace H : ((paper_Sync.f a0_0 a0_1 a0_2 a0_3).bind fun bt184 => ((selvedgeref17_Sync.f a0_0 a0_1 a0_2 a0_3).bind fun bt190 => ((paper_Records.f kj2 a0_0 a0_1 a0_2 a0_3).bind fun t196 => ((selvedgeref17_Records.f kj2 a0_0 a0_1 a0_2 a0_3).bind fun t199 => ((selvedgeref01_Same.f kj2 t196 t199).bind fun t202 => (if t171 = true then (if t202 = true then (if (t172.toList == t178.toList && (t173.toList == t179.toList && (t174 == t180 && (t175 == t181)))) = true then (if t176 = t182 then (if (bt184.1.toList == bt190.1.toList && (bt184.2.1.toList == bt190.2.1.toList && (bt184.2.2.1 == bt190.2.2.1 && (bt184.2.2.2.1 == bt190.2.2.2.1)))) = true then (if bt184.2.2.2.2 = bt190.2.2.2.2 then ((paper_Crash.f kj2 a0_0 a0_1 a0_2 a0_3 a0_5).bind fun bt203 => ((selvedgeref17_Crash.f kj2 a0_0 a0_1 a0_2 a0_3 a0_5).bind fun bt207 => (if (bt203.1.toList == bt207.1.toList && (bt203.2.1.toList == bt207.2.1.toList && (bt203.2.2.1 == bt207.2.2.1 && (bt203.2.2.2 == bt207.2.2.2)))) = true then ((paper_Arm.f a0_0 a0_1 a0_2 a0_3 a0_6).bind fun bt211 => ((selvedgeref17_Arm.f a0_0 a0_1 a0_2 a0_3 a0_6).bind fun bt215 => (some (bt211.1.toList == bt215.1.toList && (bt211.2.1.toList == bt215.2.1.toList && (bt211.2.2.1 == bt215.2.2.1 && (bt211.2.2.2 == bt215.2.2.2))))))) else (some false)))) else (some false)) else (some false)) else (some false)) else (some false)) else (some false)) else (some false))))))) = some r := H
        have A18 := Aside0.mk A180
        clear A180
        replace H := Option.bind_eq_some_iff.mp H
        obtain ⟨⟨t184, t185, t186, t187, t188⟩, A190, H⟩ := H
        replace H : ((selvedgeref17_Sync.f a0_0 a0_1 a0_2 a0_3).bind fun bt190 => ((paper_Records.f kj2 a0_0 a0_1 a0_2 a0_3).bind fun t196 => ((selvedgeref17_Records.f kj2 a0_0 a0_1 a0_2 a0_3).bind fun t199 => ((selvedgeref01_Same.f kj2 t196 t199).bind fun t202 => (if t171 = true then (if t202 = true then (if (t172.toList == t178.toList && (t173.toList == t179.toList && (t174 == t180 && (t175 == t181)))) = true then (if t176 = t182 then (if (t184.toList == bt190.1.toList && (t185.toList == bt190.2.1.toList && (t186 == bt190.2.2.1 && (t187 == bt190.2.2.2.1)))) = true then (if t188 = bt190.2.2.2.2 then ((paper_Crash.f kj2 a0_0 a0_1 a0_2 a0_3 a0_5).bind fun bt203 => ((selvedgeref17_Crash.f kj2 a0_0 a0_1 a0_2 a0_3 a0_5).bind fun bt207 => (if (bt203.1.toList == bt207.1.toList && (bt203.2.1.toList == bt207.2.1.toList && (bt203.2.2.1 == bt207.2.2.1 && (bt203.2.2.2 == bt207.2.2.2)))) = true then ((paper_Arm.f a0_0 a0_1 a0_2 a0_3 a0_6).bind fun bt211 => ((selvedgeref17_Arm.f a0_0 a0_1 a0_2 a0_3 a0_6).bind fun bt215 => (some (bt211.1.toList == bt215.1.toList && (bt211.2.1.toList == bt215.2.1.toList && (bt211.2.2.1 == bt215.2.2.1 && (bt211.2.2.2 == bt215.2.2.2))))))) else (some false)))) else (some false)) else (some false)) else (some false)) else (some false)) else (some false)) else (some false)))))) = some r := H
        have A19 := Aside0.mk A190
        clear A190
        replace H := Option.bind_eq_some_iff.mp H
        obtain ⟨⟨t190, t191, t192, t193, t194⟩, A200, H⟩ := H
        replace H : ((paper_Records.f kj2 a0_0 a0_1 a0_2 a0_3).bind fun t196 => ((selvedgeref17_Records.f kj2 a0_0 a0_1 a0_2 a0_3).bind fun t199 => ((selvedgeref01_Same.f kj2 t196 t199).bind fun t202 => (if t171 = true then (if t202 = true then (if (t172.toList == t178.toList && (t173.toList == t179.toList && (t174 == t180 && (t175 == t181)))) = true then (if t176 = t182 then (if (t184.toList == t190.toList && (t185.toList == t191.toList && (t186 == t192 && (t187 == t193)))) = true then (if t188 = t194 then ((paper_Crash.f kj2 a0_0 a0_1 a0_2 a0_3 a0_5).bind fun bt203 => ((selvedgeref17_Crash.f kj2 a0_0 a0_1 a0_2 a0_3 a0_5).bind fun bt207 => (if (bt203.1.toList == bt207.1.toList && (bt203.2.1.toList == bt207.2.1.toList && (bt203.2.2.1 == bt207.2.2.1 && (bt203.2.2.2 == bt207.2.2.2)))) = true then ((paper_Arm.f a0_0 a0_1 a0_2 a0_3 a0_6).bind fun bt211 => ((selvedgeref17_Arm.f a0_0 a0_1 a0_2 a0_3 a0_6).bind fun bt215 => (some (bt211.1.toList == bt215.1.toList && (bt211.2.1.toList == bt215.2.1.toList && (bt211.2.2.1 == bt215.2.2.1 && (bt211.2.2.2 == bt215.2.2.2))))))) else (some false)))) else (some false)) else (some false)) else (some false)) else (some false)) else (some false)) else (some false))))) = some r := H
        have A20 := Aside0.mk A200
        clear A200
        replace H := Option.bind_eq_some_iff.mp H
        obtain ⟨t196, A210, H⟩ := H
        replace H : ((selvedgeref17_Records.f kj2 a0_0 a0_1 a0_2 a0_3).bind fun t199 => ((selvedgeref01_Same.f kj2 t196 t199).bind fun t202 => (if t171 = true then (if t202 = true then (if (t172.toList == t178.toList && (t173.toList == t179.toList && (t174 == t180 && (t175 == t181)))) = true then (if t176 = t182 then (if (t184.toList == t190.toList && (t185.toList == t191.toList && (t186 == t192 && (t187 == t193)))) = true then (if t188 = t194 then ((paper_Crash.f kj2 a0_0 a0_1 a0_2 a0_3 a0_5).bind fun bt203 => ((selvedgeref17_Crash.f kj2 a0_0 a0_1 a0_2 a0_3 a0_5).bind fun bt207 => (if (bt203.1.toList == bt207.1.toList && (bt203.2.1.toList == bt207.2.1.toList && (bt203.2.2.1 == bt207.2.2.1 && (bt203.2.2.2 == bt207.2.2.2)))) = true then ((paper_Arm.f a0_0 a0_1 a0_2 a0_3 a0_6).bind fun bt211 => ((selvedgeref17_Arm.f a0_0 a0_1 a0_2 a0_3 a0_6).bind fun bt215 => (some (bt211.1.toList == bt215.1.toList && (bt211.2.1.toList == bt215.2.1.toList && (bt211.2.2.1 == bt215.2.2.1 && (bt211.2.2.2 == bt215.2.2.2))))))) else (some false)))) else (some false)) else (some false)) else (some false)) else (some false)) else (some false)) else (some false)))) = some r := H
        have A21 := Aside0.mk A210
        clear A210
        replace H := Option.bind_eq_some_iff.mp H
        obtain ⟨t199, A220, H⟩ := H
        replace H : ((selvedgeref01_Same.f kj2 t196 t199).bind fun t202 => (if t171 = true then (if t202 = true then (if (t172.toList == t178.toList && (t173.toList == t179.toList && (t174 == t180 && (t175 == t181)))) = true then (if t176 = t182 then (if (t184.toList == t190.toList && (t185.toList == t191.toList && (t186 == t192 && (t187 == t193)))) = true then (if t188 = t194 then ((paper_Crash.f kj2 a0_0 a0_1 a0_2 a0_3 a0_5).bind fun bt203 => ((selvedgeref17_Crash.f kj2 a0_0 a0_1 a0_2 a0_3 a0_5).bind fun bt207 => (if (bt203.1.toList == bt207.1.toList && (bt203.2.1.toList == bt207.2.1.toList && (bt203.2.2.1 == bt207.2.2.1 && (bt203.2.2.2 == bt207.2.2.2)))) = true then ((paper_Arm.f a0_0 a0_1 a0_2 a0_3 a0_6).bind fun bt211 => ((selvedgeref17_Arm.f a0_0 a0_1 a0_2 a0_3 a0_6).bind fun bt215 => (some (bt211.1.toList == bt215.1.toList && (bt211.2.1.toList == bt215.2.1.toList && (bt211.2.2.1 == bt215.2.2.1 && (bt211.2.2.2 == bt215.2.2.2))))))) else (some false)))) else (some false)) else (some false)) else (some false)) else (some false)) else (some false)) else (some false))) = some r := H
        have A22 := Aside0.mk A220
        clear A220
        replace H := Option.bind_eq_some_iff.mp H
        obtain ⟨t202, A230, H⟩ := H
        replace H : (if t171 = true then (if t202 = true then (if (t172.toList == t178.toList && (t173.toList == t179.toList && (t174 == t180 && (t175 == t181)))) = true then (if t176 = t182 then (if (t184.toList == t190.toList && (t185.toList == t191.toList && (t186 == t192 && (t187 == t193)))) = true then (if t188 = t194 then ((paper_Crash.f kj2 a0_0 a0_1 a0_2 a0_3 a0_5).bind fun bt203 => ((selvedgeref17_Crash.f kj2 a0_0 a0_1 a0_2 a0_3 a0_5).bind fun bt207 => (if (bt203.1.toList == bt207.1.toList && (bt203.2.1.toList == bt207.2.1.toList && (bt203.2.2.1 == bt207.2.2.1 && (bt203.2.2.2 == bt207.2.2.2)))) = true then ((paper_Arm.f a0_0 a0_1 a0_2 a0_3 a0_6).bind fun bt211 => ((selvedgeref17_Arm.f a0_0 a0_1 a0_2 a0_3 a0_6).bind fun bt215 => (some (bt211.1.toList == bt215.1.toList && (bt211.2.1.toList == bt215.2.1.toList && (bt211.2.2.1 == bt215.2.2.1 && (bt211.2.2.2 == bt215.2.2.2))))))) else (some false)))) else (some false)) else (some false)) else (some false)) else (some false)) else (some false)) else (some false)) = some r := H
        have A23 := Aside0.mk A230
        clear A230
        by_cases c24 : t171 = true
        · subst c24
          have H1 : (if t202 = true then (if (t172.toList == t178.toList && (t173.toList == t179.toList && (t174 == t180 && (t175 == t181)))) = true then (if t176 = t182 then (if (t184.toList == t190.toList && (t185.toList == t191.toList && (t186 == t192 && (t187 == t193)))) = true then (if t188 = t194 then ((paper_Crash.f kj2 a0_0 a0_1 a0_2 a0_3 a0_5).bind fun bt203 => ((selvedgeref17_Crash.f kj2 a0_0 a0_1 a0_2 a0_3 a0_5).bind fun bt207 => (if (bt203.1.toList == bt207.1.toList && (bt203.2.1.toList == bt207.2.1.toList && (bt203.2.2.1 == bt207.2.2.1 && (bt203.2.2.2 == bt207.2.2.2)))) = true then ((paper_Arm.f a0_0 a0_1 a0_2 a0_3 a0_6).bind fun bt211 => ((selvedgeref17_Arm.f a0_0 a0_1 a0_2 a0_3 a0_6).bind fun bt215 => (some (bt211.1.toList == bt215.1.toList && (bt211.2.1.toList == bt215.2.1.toList && (bt211.2.2.1 == bt215.2.2.1 && (bt211.2.2.2 == bt215.2.2.2))))))) else (some false)))) else (some false)) else (some false)) else (some false)) else (some false)) else (some false)) = some r := by rw [if_pos rfl] at H; exact H
          clear H
          have H := H1
          clear H1
          by_cases c25 : t202 = true
          · subst c25
            have H1 : (if (t172.toList == t178.toList && (t173.toList == t179.toList && (t174 == t180 && (t175 == t181)))) = true then (if t176 = t182 then (if (t184.toList == t190.toList && (t185.toList == t191.toList && (t186 == t192 && (t187 == t193)))) = true then (if t188 = t194 then ((paper_Crash.f kj2 a0_0 a0_1 a0_2 a0_3 a0_5).bind fun bt203 => ((selvedgeref17_Crash.f kj2 a0_0 a0_1 a0_2 a0_3 a0_5).bind fun bt207 => (if (bt203.1.toList == bt207.1.toList && (bt203.2.1.toList == bt207.2.1.toList && (bt203.2.2.1 == bt207.2.2.1 && (bt203.2.2.2 == bt207.2.2.2)))) = true then ((paper_Arm.f a0_0 a0_1 a0_2 a0_3 a0_6).bind fun bt211 => ((selvedgeref17_Arm.f a0_0 a0_1 a0_2 a0_3 a0_6).bind fun bt215 => (some (bt211.1.toList == bt215.1.toList && (bt211.2.1.toList == bt215.2.1.toList && (bt211.2.2.1 == bt215.2.2.1 && (bt211.2.2.2 == bt215.2.2.2))))))) else (some false)))) else (some false)) else (some false)) else (some false)) else (some false)) = some r := by rw [if_pos rfl] at H; exact H
            clear H
            have H := H1
            clear H1
            by_cases c26 : (t172.toList == t178.toList && (t173.toList == t179.toList && (t174 == t180 && (t175 == t181)))) = true
            · rw [if_pos c26] at H
              have c26b0 : (t172.toList == t178.toList && (t173.toList == t179.toList && (t174 == t180 && (t175 == t181)))) = true := c26
              (try (have c26b1 : decide (t172.toList = t178.toList && (t173.toList == t179.toList && (t174 == t180 && (t175 == t181)))) = true := by simpa using c26))
              (try (have c26b2 : (t172.toList == t178.toList && (t173.toList == t179.toList && (t174 == t180 && (t175 == t181)))) = true := by simpa using c26))
              clear c26
              by_cases c27 : t176 = t182
              · rw [if_pos c27] at H
                have c27b0 : (t176 == t182) = true := beq_iff_eq.mpr c27
                have c27b1 : (t176 != t182) = false := bne_eq_false_iff_eq.mpr c27
                clear c27
                by_cases c28 : (t184.toList == t190.toList && (t185.toList == t191.toList && (t186 == t192 && (t187 == t193)))) = true
                · rw [if_pos c28] at H
                  have c28b0 : (t184.toList == t190.toList && (t185.toList == t191.toList && (t186 == t192 && (t187 == t193)))) = true := c28
                  (try (have c28b1 : decide (t184.toList = t190.toList && (t185.toList == t191.toList && (t186 == t192 && (t187 == t193)))) = true := by simpa using c28))
                  (try (have c28b2 : (t184.toList == t190.toList && (t185.toList == t191.toList && (t186 == t192 && (t187 == t193)))) = true := by simpa using c28))
                  clear c28
                  by_cases c29 : t188 = t194
                  · rw [if_pos c29] at H
                    have c29b0 : (t188 == t194) = true := beq_iff_eq.mpr c29
                    have c29b1 : (t188 != t194) = false := bne_eq_false_iff_eq.mpr c29
                    clear c29
                    replace H := Option.bind_eq_some_iff.mp H
                    obtain ⟨⟨t203, t204, t205, t206⟩, A300, H⟩ := H
                    replace H : ((selvedgeref17_Crash.f kj2 a0_0 a0_1 a0_2 a0_3 a0_5).bind fun bt207 => (if (t203.toList == bt207.1.toList && (t204.toList == bt207.2.1.toList && (t205 == bt207.2.2.1 && (t206 == bt207.2.2.2)))) = true then ((paper_Arm.f a0_0 a0_1 a0_2 a0_3 a0_6).bind fun bt211 => ((selvedgeref17_Arm.f a0_0 a0_1 a0_2 a0_3 a0_6).bind fun bt215 => (some (bt211.1.toList == bt215.1.toList && (bt211.2.1.toList == bt215.2.1.toList && (bt211.2.2.1 == bt215.2.2.1 && (bt211.2.2.2 == bt215.2.2.2))))))) else (some false))) = some r := H
                    have A30 := Aside0.mk A300
                    clear A300
                    replace H := Option.bind_eq_some_iff.mp H
                    obtain ⟨⟨t207, t208, t209, t210⟩, A310, H⟩ := H
                    replace H : (if (t203.toList == t207.toList && (t204.toList == t208.toList && (t205 == t209 && (t206 == t210)))) = true then ((paper_Arm.f a0_0 a0_1 a0_2 a0_3 a0_6).bind fun bt211 => ((selvedgeref17_Arm.f a0_0 a0_1 a0_2 a0_3 a0_6).bind fun bt215 => (some (bt211.1.toList == bt215.1.toList && (bt211.2.1.toList == bt215.2.1.toList && (bt211.2.2.1 == bt215.2.2.1 && (bt211.2.2.2 == bt215.2.2.2))))))) else (some false)) = some r := H
                    have A31 := Aside0.mk A310
                    clear A310
                    by_cases c32 : (t203.toList == t207.toList && (t204.toList == t208.toList && (t205 == t209 && (t206 == t210)))) = true
                    · rw [if_pos c32] at H
                      have c32b0 : (t203.toList == t207.toList && (t204.toList == t208.toList && (t205 == t209 && (t206 == t210)))) = true := c32
                      (try (have c32b1 : decide (t203.toList = t207.toList && (t204.toList == t208.toList && (t205 == t209 && (t206 == t210)))) = true := by simpa using c32))
                      (try (have c32b2 : (t203.toList == t207.toList && (t204.toList == t208.toList && (t205 == t209 && (t206 == t210)))) = true := by simpa using c32))
                      clear c32
                      replace H := Option.bind_eq_some_iff.mp H
                      obtain ⟨⟨t211, t212, t213, t214⟩, A330, H⟩ := H
                      replace H : ((selvedgeref17_Arm.f a0_0 a0_1 a0_2 a0_3 a0_6).bind fun bt215 => (some (t211.toList == bt215.1.toList && (t212.toList == bt215.2.1.toList && (t213 == bt215.2.2.1 && (t214 == bt215.2.2.2)))))) = some r := H
                      have A33 := Aside0.mk A330
                      clear A330
                      replace H := Option.bind_eq_some_iff.mp H
                      obtain ⟨⟨t215, t216, t217, t218⟩, A340, H⟩ := H
                      replace H : (some (t211.toList == t215.toList && (t212.toList == t216.toList && (t213 == t217 && (t214 == t218))))) = some r := H
                      have A34 := Aside0.mk A340
                      clear A340
                      obtain rfl := Option.some.inj H
                      have hnb35 := NB170_169.out
                      have hnc35 := NB169_170.out
                      have hcz36_0 : wc.cell? ⟨gb170, 0, none⟩ = some (.string a0_0) := (blk_cell BK170.out 0).trans rfl
                      have hcz36_1 : wc.cell? ⟨gb170, 1, none⟩ = some (.string a0_1) := (blk_cell BK170.out 1).trans rfl
                      have hcz36_2 : wc.cell? ⟨gb170, 2, none⟩ = some (.int .i64 a0_2) := (blk_cell BK170.out 2).trans rfl
                      have hcz36_3 : wc.cell? ⟨gb170, 3, none⟩ = some (.bool a0_3) := (blk_cell BK170.out 3).trans rfl
                      have hfz36_0 := blk_frozen BK170.out 0
                      have hfz36_1 := blk_frozen BK170.out 1
                      have hfz36_2 := blk_frozen BK170.out 2
                      have hfz36_3 := blk_frozen BK170.out 3
                      try go_wp2_with (first | ((with_reducible refine gate_callee (f := 37) rfl ?_); refine goesL_ (some 40) rfl rfl Try.func37 (by kernel_rfl) rfl #[.agg #[.string a0_0, .string a0_1, .int .i64 a0_2, .bool a0_3], .string a0_4] rfl (by (try simp only [List.map_toArray, List.map_cons, List.map_nil]); first | done | rfl | (simp only [List.length_drop, List.length_take]; rfl)) ?_; (with_reducible refine (paper_Append.calls a0_0 a0_1 a0_2 a0_3 a0_4 t172 t173 t174 t175 t176 _ A17.out).mono ?_); rintro e w37 ⟨rfl, hb⟩; refine ⟨_, rfl, ?_⟩; have n0_ := Aside0.mk (blk_below (g := gb169) (o := .cells #[.string a0_0, .string a0_1, .int .i64 a0_2, .bool a0_3, .string a0_4, .int .i64 a0_5, .int .i64 a0_6] 69 (0, 0)) (by (with_reducible repeat (first | refine blk_drewN ?_ _ | refine blk_drew ?_ | refine blk_alloc ?_ _)); exact BK169.out) hb); have n1_ := Aside0.mk (blk_below (g := gb170) (o := .cells #[.string a0_0, .string a0_1, .int .i64 a0_2, .bool a0_3] 60 (0, 0)) (by (with_reducible repeat (first | refine blk_drewN ?_ _ | refine blk_drew ?_ | refine blk_alloc ?_ _)); exact BK170.out) hb); have n2_ := Aside0.mk (below_step (by repeat (first | (with_reducible first | exact HB.out | apply below_alloc | apply pw_below_drewN | apply below_drew1 | refine below_set ?_ GE169.out | refine below_set ?_ GE170.out) | exact HB.out)) hb); clear BK169; clear BK170; clear HB; have BK169 := n0_; have BK170 := n1_; have HB := n2_; clear n0_ n1_ n2_; (try clear hb); (try clear hb2); (try clear hk); (try clear hi)) | ((with_reducible refine gate_dst (N := 8) rfl ?_); (try (refine gate_guard (by rfl) ?_; dsimp only)); refine box_event ?hg (N := 8) ?hd (cs := #[.string (⟨#[]⟩ : ByteArray), .string (⟨#[]⟩ : ByteArray), .int .i64 0, .bool false]) (t := 60) ?hr ?_; (case hd => rfl); (case hg => rfl); (case hr => first | (go_simp; done) | (go_simp; rfl)); intro gb177 hg w38 hbox hb; have n0_ := Aside0.mk (blk_below (g := gb169) (o := .cells #[.string a0_0, .string a0_1, .int .i64 a0_2, .bool a0_3, .string a0_4, .int .i64 a0_5, .int .i64 a0_6] 69 (0, 0)) (by (with_reducible repeat (first | refine blk_drewN ?_ _ | refine blk_drew ?_ | refine blk_alloc ?_ _)); exact BK169.out) hb); have n1_ := Aside0.mk (blk_below (g := gb170) (o := .cells #[.string a0_0, .string a0_1, .int .i64 a0_2, .bool a0_3] 60 (0, 0)) (by (with_reducible repeat (first | refine blk_drewN ?_ _ | refine blk_drew ?_ | refine blk_alloc ?_ _)); exact BK170.out) hb); have n2_ := Aside0.mk (below_step (by repeat (first | (with_reducible first | exact HB.out | apply below_alloc | apply pw_below_drewN | apply below_drew1 | refine below_set ?_ GE169.out | refine below_set ?_ GE170.out) | exact HB.out)) hb); have n3_ := Aside0.mk (hbox); have n4_ := Aside0.mk ((by rw [hg]; exact (below_size (by repeat (first | (with_reducible first | exact HB.out | apply below_alloc | apply pw_below_drewN | apply below_drew1 | refine below_set ?_ GE169.out | refine below_set ?_ GE170.out) | exact HB.out))) : w.heap.size ≤ gb177)); have n5_ := Aside0.mk ((by rw [hg]; exact (below_size (by repeat (first | (with_reducible first | exact HB.out | apply below_alloc | apply pw_below_drewN | apply below_drew1 | refine below_set ?_ GE169.out | refine below_set ?_ GE170.out) | exact HB.out))) : w.heap.size ≤ gb177)); have n6_ := Aside0.mk ((by rw [hg]; exact Nat.ne_of_lt (blk_lt (g := gb169) (o := .cells #[.string a0_0, .string a0_1, .int .i64 a0_2, .bool a0_3, .string a0_4, .int .i64 a0_5, .int .i64 a0_6] 69 (0, 0)) (by (with_reducible repeat (first | refine blk_drewN ?_ _ | refine blk_drew ?_ | refine blk_alloc ?_ _)); exact BK169.out)) : gb169 ≠ gb177)); have n7_ := Aside0.mk ((by rw [hg]; exact Nat.ne_of_gt (blk_lt (g := gb169) (o := .cells #[.string a0_0, .string a0_1, .int .i64 a0_2, .bool a0_3, .string a0_4, .int .i64 a0_5, .int .i64 a0_6] 69 (0, 0)) (by (with_reducible repeat (first | refine blk_drewN ?_ _ | refine blk_drew ?_ | refine blk_alloc ?_ _)); exact BK169.out)) : gb177 ≠ gb169)); have n8_ := Aside0.mk ((by rw [hg]; exact Nat.ne_of_lt (blk_lt (g := gb170) (o := .cells #[.string a0_0, .string a0_1, .int .i64 a0_2, .bool a0_3] 60 (0, 0)) (by (with_reducible repeat (first | refine blk_drewN ?_ _ | refine blk_drew ?_ | refine blk_alloc ?_ _)); exact BK170.out)) : gb170 ≠ gb177)); have n9_ := Aside0.mk ((by rw [hg]; exact Nat.ne_of_gt (blk_lt (g := gb170) (o := .cells #[.string a0_0, .string a0_1, .int .i64 a0_2, .bool a0_3] 60 (0, 0)) (by (with_reducible repeat (first | refine blk_drewN ?_ _ | refine blk_drew ?_ | refine blk_alloc ?_ _)); exact BK170.out)) : gb177 ≠ gb170)); clear BK169; clear BK170; clear HB; have BK169 := n0_; have BK170 := n1_; have HB := n2_; have BK177 := n3_; have GW177 := n4_; have GE177 := n5_; have NB169_177 := n6_; have NB177_169 := n7_; have NB170_177 := n8_; have NB177_170 := n9_; clear n0_ n1_ n2_ n3_ n4_ n5_ n6_ n7_ n8_ n9_; clear hb hbox hg; have hnb39 := NB177_169.out; have hnc39 := NB169_177.out; have hnb40 := NB177_170.out; have hnc40 := NB170_177.out; have hcz41_0 : w38.cell? ⟨gb177, 0, none⟩ = some (.string (⟨#[]⟩ : ByteArray)) := (blk_cell BK177.out 0).trans rfl; have hcz41_1 : w38.cell? ⟨gb177, 1, none⟩ = some (.string (⟨#[]⟩ : ByteArray)) := (blk_cell BK177.out 1).trans rfl; have hcz41_2 : w38.cell? ⟨gb177, 2, none⟩ = some (.int .i64 0) := (blk_cell BK177.out 2).trans rfl; have hcz41_3 : w38.cell? ⟨gb177, 3, none⟩ = some (.bool false) := (blk_cell BK177.out 3).trans rfl; have hfz41_0 := blk_frozen BK177.out 0; have hfz41_1 := blk_frozen BK177.out 1; have hfz41_2 := blk_frozen BK177.out 2; have hfz41_3 := blk_frozen BK177.out 3; have hcz42_0 : w38.cell? ⟨gb170, 0, none⟩ = some (.string a0_0) := (blk_cell BK170.out 0).trans rfl; have hcz42_1 : w38.cell? ⟨gb170, 1, none⟩ = some (.string a0_1) := (blk_cell BK170.out 1).trans rfl; have hcz42_2 : w38.cell? ⟨gb170, 2, none⟩ = some (.int .i64 a0_2) := (blk_cell BK170.out 2).trans rfl; have hcz42_3 : w38.cell? ⟨gb170, 3, none⟩ = some (.bool a0_3) := (blk_cell BK170.out 3).trans rfl; have hfz42_0 := blk_frozen BK170.out 0; have hfz42_1 := blk_frozen BK170.out 1; have hfz42_2 := blk_frozen BK170.out 2; have hfz42_3 := blk_frozen BK170.out 3) | ((with_reducible refine gate_callee (f := 41) rfl ?_); refine goesL_ (some 46) rfl rfl Try.func41 (by kernel_rfl) rfl #[.agg #[.string a0_0, .string a0_1, .int .i64 a0_2, .bool a0_3], .string a0_4] rfl (by (try simp only [List.map_toArray, List.map_cons, List.map_nil]); first | done | rfl | (simp only [List.length_drop, List.length_take]; rfl)) ?_; (with_reducible refine (selvedgeref17_Append.calls kj2 a0_0 a0_1 a0_2 a0_3 a0_4 t178 t179 t180 t181 t182 _ A18.out).mono ?_); rintro e w43 ⟨rfl, hb⟩; refine ⟨_, rfl, ?_⟩; have n0_ := Aside0.mk (blk_below (g := gb169) (o := .cells #[.string a0_0, .string a0_1, .int .i64 a0_2, .bool a0_3, .string a0_4, .int .i64 a0_5, .int .i64 a0_6] 69 (0, 0)) (by (with_reducible repeat (first | refine blk_drewN ?_ _ | refine blk_drew ?_ | refine blk_alloc ?_ _)); refine blk_far ?_ NB169_177.out _; (with_reducible repeat (first | refine blk_drewN ?_ _ | refine blk_drew ?_ | refine blk_alloc ?_ _)); refine blk_far ?_ NB169_177.out _; (with_reducible repeat (first | refine blk_drewN ?_ _ | refine blk_drew ?_ | refine blk_alloc ?_ _)); refine blk_far ?_ NB169_177.out _; (with_reducible repeat (first | refine blk_drewN ?_ _ | refine blk_drew ?_ | refine blk_alloc ?_ _)); refine blk_far ?_ NB169_177.out _; (with_reducible repeat (first | refine blk_drewN ?_ _ | refine blk_drew ?_ | refine blk_alloc ?_ _)); exact BK169.out) hb); have n1_ := Aside0.mk (blk_below (g := gb170) (o := .cells #[.string a0_0, .string a0_1, .int .i64 a0_2, .bool a0_3] 60 (0, 0)) (by (with_reducible repeat (first | refine blk_drewN ?_ _ | refine blk_drew ?_ | refine blk_alloc ?_ _)); refine blk_far ?_ NB170_177.out _; (with_reducible repeat (first | refine blk_drewN ?_ _ | refine blk_drew ?_ | refine blk_alloc ?_ _)); refine blk_far ?_ NB170_177.out _; (with_reducible repeat (first | refine blk_drewN ?_ _ | refine blk_drew ?_ | refine blk_alloc ?_ _)); refine blk_far ?_ NB170_177.out _; (with_reducible repeat (first | refine blk_drewN ?_ _ | refine blk_drew ?_ | refine blk_alloc ?_ _)); refine blk_far ?_ NB170_177.out _; (with_reducible repeat (first | refine blk_drewN ?_ _ | refine blk_drew ?_ | refine blk_alloc ?_ _)); exact BK170.out) hb); have n2_ := Aside0.mk (blk_below (g := gb177) (o := .cells #[.string t172, .string t173, .int .i64 t174, .bool t175] 60 (0, 0)) (by (with_reducible repeat (first | refine blk_drewN ?_ _ | refine blk_drew ?_ | refine blk_alloc ?_ _)); refine blk_put (cs := #[.string t172, .string t173, .int .i64 t174, .bool false]) ?_ 3 _ rfl; (with_reducible repeat (first | refine blk_drewN ?_ _ | refine blk_drew ?_ | refine blk_alloc ?_ _)); refine blk_put (cs := #[.string t172, .string t173, .int .i64 0, .bool false]) ?_ 2 _ rfl; (with_reducible repeat (first | refine blk_drewN ?_ _ | refine blk_drew ?_ | refine blk_alloc ?_ _)); refine blk_put (cs := #[.string t172, .string (⟨#[]⟩ : ByteArray), .int .i64 0, .bool false]) ?_ 1 _ rfl; (with_reducible repeat (first | refine blk_drewN ?_ _ | refine blk_drew ?_ | refine blk_alloc ?_ _)); refine blk_put (cs := #[.string (⟨#[]⟩ : ByteArray), .string (⟨#[]⟩ : ByteArray), .int .i64 0, .bool false]) ?_ 0 _ rfl; (with_reducible repeat (first | refine blk_drewN ?_ _ | refine blk_drew ?_ | refine blk_alloc ?_ _)); exact BK177.out) hb); have n3_ := Aside0.mk (below_step (by repeat (first | (with_reducible first | exact HB.out | apply below_alloc | apply pw_below_drewN | apply below_drew1 | refine below_set ?_ GE169.out | refine below_set ?_ GE170.out | refine below_set ?_ GE177.out) | exact HB.out)) hb); clear BK169; clear BK170; clear BK177; clear HB; have BK169 := n0_; have BK170 := n1_; have BK177 := n2_; have HB := n3_; clear n0_ n1_ n2_ n3_; (try clear hb); (try clear hb2); (try clear hk); (try clear hi)) | ((with_reducible refine gate_dst (N := 10) rfl ?_); (try (refine gate_guard (by rfl) ?_; dsimp only)); refine box_event ?hg (N := 10) ?hd (cs := #[.string (⟨#[]⟩ : ByteArray), .string (⟨#[]⟩ : ByteArray), .int .i64 0, .bool false]) (t := 60) ?hr ?_; (case hd => rfl); (case hg => rfl); (case hr => first | (go_simp; done) | (go_simp; rfl)); intro gb183 hg w44 hbox hb; have n0_ := Aside0.mk (blk_below (g := gb169) (o := .cells #[.string a0_0, .string a0_1, .int .i64 a0_2, .bool a0_3, .string a0_4, .int .i64 a0_5, .int .i64 a0_6] 69 (0, 0)) (by (with_reducible repeat (first | refine blk_drewN ?_ _ | refine blk_drew ?_ | refine blk_alloc ?_ _)); exact BK169.out) hb); have n1_ := Aside0.mk (blk_below (g := gb170) (o := .cells #[.string a0_0, .string a0_1, .int .i64 a0_2, .bool a0_3] 60 (0, 0)) (by (with_reducible repeat (first | refine blk_drewN ?_ _ | refine blk_drew ?_ | refine blk_alloc ?_ _)); exact BK170.out) hb); have n2_ := Aside0.mk (blk_below (g := gb177) (o := .cells #[.string t172, .string t173, .int .i64 t174, .bool t175] 60 (0, 0)) (by (with_reducible repeat (first | refine blk_drewN ?_ _ | refine blk_drew ?_ | refine blk_alloc ?_ _)); exact BK177.out) hb); have n3_ := Aside0.mk (below_step (by repeat (first | (with_reducible first | exact HB.out | apply below_alloc | apply pw_below_drewN | apply below_drew1 | refine below_set ?_ GE169.out | refine below_set ?_ GE170.out | refine below_set ?_ GE177.out) | exact HB.out)) hb); have n4_ := Aside0.mk (hbox); have n5_ := Aside0.mk ((by rw [hg]; exact (below_size (by repeat (first | (with_reducible first | exact HB.out | apply below_alloc | apply pw_below_drewN | apply below_drew1 | refine below_set ?_ GE169.out | refine below_set ?_ GE170.out | refine below_set ?_ GE177.out) | exact HB.out))) : w.heap.size ≤ gb183)); have n6_ := Aside0.mk ((by rw [hg]; exact (below_size (by repeat (first | (with_reducible first | exact HB.out | apply below_alloc | apply pw_below_drewN | apply below_drew1 | refine below_set ?_ GE169.out | refine below_set ?_ GE170.out | refine below_set ?_ GE177.out) | exact HB.out))) : w.heap.size ≤ gb183)); have n7_ := Aside0.mk ((by rw [hg]; exact Nat.ne_of_lt (blk_lt (g := gb169) (o := .cells #[.string a0_0, .string a0_1, .int .i64 a0_2, .bool a0_3, .string a0_4, .int .i64 a0_5, .int .i64 a0_6] 69 (0, 0)) (by (with_reducible repeat (first | refine blk_drewN ?_ _ | refine blk_drew ?_ | refine blk_alloc ?_ _)); exact BK169.out)) : gb169 ≠ gb183)); have n8_ := Aside0.mk ((by rw [hg]; exact Nat.ne_of_gt (blk_lt (g := gb169) (o := .cells #[.string a0_0, .string a0_1, .int .i64 a0_2, .bool a0_3, .string a0_4, .int .i64 a0_5, .int .i64 a0_6] 69 (0, 0)) (by (with_reducible repeat (first | refine blk_drewN ?_ _ | refine blk_drew ?_ | refine blk_alloc ?_ _)); exact BK169.out)) : gb183 ≠ gb169)); have n9_ := Aside0.mk ((by rw [hg]; exact Nat.ne_of_lt (blk_lt (g := gb170) (o := .cells #[.string a0_0, .string a0_1, .int .i64 a0_2, .bool a0_3] 60 (0, 0)) (by (with_reducible repeat (first | refine blk_drewN ?_ _ | refine blk_drew ?_ | refine blk_alloc ?_ _)); exact BK170.out)) : gb170 ≠ gb183)); have n10_ := Aside0.mk ((by rw [hg]; exact Nat.ne_of_gt (blk_lt (g := gb170) (o := .cells #[.string a0_0, .string a0_1, .int .i64 a0_2, .bool a0_3] 60 (0, 0)) (by (with_reducible repeat (first | refine blk_drewN ?_ _ | refine blk_drew ?_ | refine blk_alloc ?_ _)); exact BK170.out)) : gb183 ≠ gb170)); have n11_ := Aside0.mk ((by rw [hg]; exact Nat.ne_of_lt (blk_lt (g := gb177) (o := .cells #[.string t172, .string t173, .int .i64 t174, .bool t175] 60 (0, 0)) (by (with_reducible repeat (first | refine blk_drewN ?_ _ | refine blk_drew ?_ | refine blk_alloc ?_ _)); exact BK177.out)) : gb177 ≠ gb183)); have n12_ := Aside0.mk ((by rw [hg]; exact Nat.ne_of_gt (blk_lt (g := gb177) (o := .cells #[.string t172, .string t173, .int .i64 t174, .bool t175] 60 (0, 0)) (by (with_reducible repeat (first | refine blk_drewN ?_ _ | refine blk_drew ?_ | refine blk_alloc ?_ _)); exact BK177.out)) : gb183 ≠ gb177)); clear BK169; clear BK170; clear BK177; clear HB; have BK169 := n0_; have BK170 := n1_; have BK177 := n2_; have HB := n3_; have BK183 := n4_; have GW183 := n5_; have GE183 := n6_; have NB169_183 := n7_; have NB183_169 := n8_; have NB170_183 := n9_; have NB183_170 := n10_; have NB177_183 := n11_; have NB183_177 := n12_; clear n0_ n1_ n2_ n3_ n4_ n5_ n6_ n7_ n8_ n9_ n10_ n11_ n12_; clear hb hbox hg; have hnb45 := NB183_169.out; have hnc45 := NB169_183.out; have hnb46 := NB183_170.out; have hnc46 := NB170_183.out; have hnb47 := NB183_177.out; have hnc47 := NB177_183.out; have hcz48_0 : w44.cell? ⟨gb183, 0, none⟩ = some (.string (⟨#[]⟩ : ByteArray)) := (blk_cell BK183.out 0).trans rfl; have hcz48_1 : w44.cell? ⟨gb183, 1, none⟩ = some (.string (⟨#[]⟩ : ByteArray)) := (blk_cell BK183.out 1).trans rfl; have hcz48_2 : w44.cell? ⟨gb183, 2, none⟩ = some (.int .i64 0) := (blk_cell BK183.out 2).trans rfl; have hcz48_3 : w44.cell? ⟨gb183, 3, none⟩ = some (.bool false) := (blk_cell BK183.out 3).trans rfl; have hfz48_0 := blk_frozen BK183.out 0; have hfz48_1 := blk_frozen BK183.out 1; have hfz48_2 := blk_frozen BK183.out 2; have hfz48_3 := blk_frozen BK183.out 3; have hcz49_0 : w44.cell? ⟨gb170, 0, none⟩ = some (.string a0_0) := (blk_cell BK170.out 0).trans rfl; have hcz49_1 : w44.cell? ⟨gb170, 1, none⟩ = some (.string a0_1) := (blk_cell BK170.out 1).trans rfl; have hcz49_2 : w44.cell? ⟨gb170, 2, none⟩ = some (.int .i64 a0_2) := (blk_cell BK170.out 2).trans rfl; have hcz49_3 : w44.cell? ⟨gb170, 3, none⟩ = some (.bool a0_3) := (blk_cell BK170.out 3).trans rfl; have hfz49_0 := blk_frozen BK170.out 0; have hfz49_1 := blk_frozen BK170.out 1; have hfz49_2 := blk_frozen BK170.out 2; have hfz49_3 := blk_frozen BK170.out 3) | ((with_reducible refine gate_callee (f := 38) rfl ?_); refine goesL_ (some 51) rfl rfl Try.func38 (by kernel_rfl) rfl #[.agg #[.string a0_0, .string a0_1, .int .i64 a0_2, .bool a0_3]] rfl (by (try simp only [List.map_toArray, List.map_cons, List.map_nil]); first | done | rfl | (simp only [List.length_drop, List.length_take]; rfl)) ?_; (with_reducible refine (paper_Sync.calls a0_0 a0_1 a0_2 a0_3 t184 t185 t186 t187 t188 _ A19.out).mono ?_); rintro e w50 ⟨rfl, hb⟩; refine ⟨_, rfl, ?_⟩; have n0_ := Aside0.mk (blk_below (g := gb169) (o := .cells #[.string a0_0, .string a0_1, .int .i64 a0_2, .bool a0_3, .string a0_4, .int .i64 a0_5, .int .i64 a0_6] 69 (0, 0)) (by (with_reducible repeat (first | refine blk_drewN ?_ _ | refine blk_drew ?_ | refine blk_alloc ?_ _)); refine blk_far ?_ NB169_183.out _; (with_reducible repeat (first | refine blk_drewN ?_ _ | refine blk_drew ?_ | refine blk_alloc ?_ _)); refine blk_far ?_ NB169_183.out _; (with_reducible repeat (first | refine blk_drewN ?_ _ | refine blk_drew ?_ | refine blk_alloc ?_ _)); refine blk_far ?_ NB169_183.out _; (with_reducible repeat (first | refine blk_drewN ?_ _ | refine blk_drew ?_ | refine blk_alloc ?_ _)); refine blk_far ?_ NB169_183.out _; (with_reducible repeat (first | refine blk_drewN ?_ _ | refine blk_drew ?_ | refine blk_alloc ?_ _)); exact BK169.out) hb); have n1_ := Aside0.mk (blk_below (g := gb170) (o := .cells #[.string a0_0, .string a0_1, .int .i64 a0_2, .bool a0_3] 60 (0, 0)) (by (with_reducible repeat (first | refine blk_drewN ?_ _ | refine blk_drew ?_ | refine blk_alloc ?_ _)); refine blk_far ?_ NB170_183.out _; (with_reducible repeat (first | refine blk_drewN ?_ _ | refine blk_drew ?_ | refine blk_alloc ?_ _)); refine blk_far ?_ NB170_183.out _; (with_reducible repeat (first | refine blk_drewN ?_ _ | refine blk_drew ?_ | refine blk_alloc ?_ _)); refine blk_far ?_ NB170_183.out _; (with_reducible repeat (first | refine blk_drewN ?_ _ | refine blk_drew ?_ | refine blk_alloc ?_ _)); refine blk_far ?_ NB170_183.out _; (with_reducible repeat (first | refine blk_drewN ?_ _ | refine blk_drew ?_ | refine blk_alloc ?_ _)); exact BK170.out) hb); have n2_ := Aside0.mk (blk_below (g := gb177) (o := .cells #[.string t172, .string t173, .int .i64 t174, .bool t175] 60 (0, 0)) (by (with_reducible repeat (first | refine blk_drewN ?_ _ | refine blk_drew ?_ | refine blk_alloc ?_ _)); refine blk_far ?_ NB177_183.out _; (with_reducible repeat (first | refine blk_drewN ?_ _ | refine blk_drew ?_ | refine blk_alloc ?_ _)); refine blk_far ?_ NB177_183.out _; (with_reducible repeat (first | refine blk_drewN ?_ _ | refine blk_drew ?_ | refine blk_alloc ?_ _)); refine blk_far ?_ NB177_183.out _; (with_reducible repeat (first | refine blk_drewN ?_ _ | refine blk_drew ?_ | refine blk_alloc ?_ _)); refine blk_far ?_ NB177_183.out _; (with_reducible repeat (first | refine blk_drewN ?_ _ | refine blk_drew ?_ | refine blk_alloc ?_ _)); exact BK177.out) hb); have n3_ := Aside0.mk (blk_below (g := gb183) (o := .cells #[.string t178, .string t179, .int .i64 t180, .bool t181] 60 (0, 0)) (by (with_reducible repeat (first | refine blk_drewN ?_ _ | refine blk_drew ?_ | refine blk_alloc ?_ _)); refine blk_put (cs := #[.string t178, .string t179, .int .i64 t180, .bool false]) ?_ 3 _ rfl; (with_reducible repeat (first | refine blk_drewN ?_ _ | refine blk_drew ?_ | refine blk_alloc ?_ _)); refine blk_put (cs := #[.string t178, .string t179, .int .i64 0, .bool false]) ?_ 2 _ rfl; (with_reducible repeat (first | refine blk_drewN ?_ _ | refine blk_drew ?_ | refine blk_alloc ?_ _)); refine blk_put (cs := #[.string t178, .string (⟨#[]⟩ : ByteArray), .int .i64 0, .bool false]) ?_ 1 _ rfl; (with_reducible repeat (first | refine blk_drewN ?_ _ | refine blk_drew ?_ | refine blk_alloc ?_ _)); refine blk_put (cs := #[.string (⟨#[]⟩ : ByteArray), .string (⟨#[]⟩ : ByteArray), .int .i64 0, .bool false]) ?_ 0 _ rfl; (with_reducible repeat (first | refine blk_drewN ?_ _ | refine blk_drew ?_ | refine blk_alloc ?_ _)); exact BK183.out) hb); have n4_ := Aside0.mk (below_step (by repeat (first | (with_reducible first | exact HB.out | apply below_alloc | apply pw_below_drewN | apply below_drew1 | refine below_set ?_ GE169.out | refine below_set ?_ GE170.out | refine below_set ?_ GE177.out | refine below_set ?_ GE183.out) | exact HB.out)) hb); clear BK169; clear BK170; clear BK177; clear BK183; clear HB; have BK169 := n0_; have BK170 := n1_; have BK177 := n2_; have BK183 := n3_; have HB := n4_; clear n0_ n1_ n2_ n3_ n4_; (try clear hb); (try clear hb2); (try clear hk); (try clear hi)) | ((with_reducible refine gate_dst (N := 12) rfl ?_); (try (refine gate_guard (by rfl) ?_; dsimp only)); refine box_event ?hg (N := 12) ?hd (cs := #[.string (⟨#[]⟩ : ByteArray), .string (⟨#[]⟩ : ByteArray), .int .i64 0, .bool false]) (t := 60) ?hr ?_; (case hd => rfl); (case hg => rfl); (case hr => first | (go_simp; done) | (go_simp; rfl)); intro gb189 hg w51 hbox hb; have n0_ := Aside0.mk (blk_below (g := gb169) (o := .cells #[.string a0_0, .string a0_1, .int .i64 a0_2, .bool a0_3, .string a0_4, .int .i64 a0_5, .int .i64 a0_6] 69 (0, 0)) (by (with_reducible repeat (first | refine blk_drewN ?_ _ | refine blk_drew ?_ | refine blk_alloc ?_ _)); exact BK169.out) hb); have n1_ := Aside0.mk (blk_below (g := gb170) (o := .cells #[.string a0_0, .string a0_1, .int .i64 a0_2, .bool a0_3] 60 (0, 0)) (by (with_reducible repeat (first | refine blk_drewN ?_ _ | refine blk_drew ?_ | refine blk_alloc ?_ _)); exact BK170.out) hb); have n2_ := Aside0.mk (blk_below (g := gb177) (o := .cells #[.string t172, .string t173, .int .i64 t174, .bool t175] 60 (0, 0)) (by (with_reducible repeat (first | refine blk_drewN ?_ _ | refine blk_drew ?_ | refine blk_alloc ?_ _)); exact BK177.out) hb); have n3_ := Aside0.mk (blk_below (g := gb183) (o := .cells #[.string t178, .string t179, .int .i64 t180, .bool t181] 60 (0, 0)) (by (with_reducible repeat (first | refine blk_drewN ?_ _ | refine blk_drew ?_ | refine blk_alloc ?_ _)); exact BK183.out) hb); have n4_ := Aside0.mk (below_step (by repeat (first | (with_reducible first | exact HB.out | apply below_alloc | apply pw_below_drewN | apply below_drew1 | refine below_set ?_ GE169.out | refine below_set ?_ GE170.out | refine below_set ?_ GE177.out | refine below_set ?_ GE183.out) | exact HB.out)) hb); have n5_ := Aside0.mk (hbox); have n6_ := Aside0.mk ((by rw [hg]; exact (below_size (by repeat (first | (with_reducible first | exact HB.out | apply below_alloc | apply pw_below_drewN | apply below_drew1 | refine below_set ?_ GE169.out | refine below_set ?_ GE170.out | refine below_set ?_ GE177.out | refine below_set ?_ GE183.out) | exact HB.out))) : w.heap.size ≤ gb189)); have n7_ := Aside0.mk ((by rw [hg]; exact (below_size (by repeat (first | (with_reducible first | exact HB.out | apply below_alloc | apply pw_below_drewN | apply below_drew1 | refine below_set ?_ GE169.out | refine below_set ?_ GE170.out | refine below_set ?_ GE177.out | refine below_set ?_ GE183.out) | exact HB.out))) : w.heap.size ≤ gb189)); have n8_ := Aside0.mk ((by rw [hg]; exact Nat.ne_of_lt (blk_lt (g := gb169) (o := .cells #[.string a0_0, .string a0_1, .int .i64 a0_2, .bool a0_3, .string a0_4, .int .i64 a0_5, .int .i64 a0_6] 69 (0, 0)) (by (with_reducible repeat (first | refine blk_drewN ?_ _ | refine blk_drew ?_ | refine blk_alloc ?_ _)); exact BK169.out)) : gb169 ≠ gb189)); have n9_ := Aside0.mk ((by rw [hg]; exact Nat.ne_of_gt (blk_lt (g := gb169) (o := .cells #[.string a0_0, .string a0_1, .int .i64 a0_2, .bool a0_3, .string a0_4, .int .i64 a0_5, .int .i64 a0_6] 69 (0, 0)) (by (with_reducible repeat (first | refine blk_drewN ?_ _ | refine blk_drew ?_ | refine blk_alloc ?_ _)); exact BK169.out)) : gb189 ≠ gb169)); have n10_ := Aside0.mk ((by rw [hg]; exact Nat.ne_of_lt (blk_lt (g := gb170) (o := .cells #[.string a0_0, .string a0_1, .int .i64 a0_2, .bool a0_3] 60 (0, 0)) (by (with_reducible repeat (first | refine blk_drewN ?_ _ | refine blk_drew ?_ | refine blk_alloc ?_ _)); exact BK170.out)) : gb170 ≠ gb189)); have n11_ := Aside0.mk ((by rw [hg]; exact Nat.ne_of_gt (blk_lt (g := gb170) (o := .cells #[.string a0_0, .string a0_1, .int .i64 a0_2, .bool a0_3] 60 (0, 0)) (by (with_reducible repeat (first | refine blk_drewN ?_ _ | refine blk_drew ?_ | refine blk_alloc ?_ _)); exact BK170.out)) : gb189 ≠ gb170)); have n12_ := Aside0.mk ((by rw [hg]; exact Nat.ne_of_lt (blk_lt (g := gb177) (o := .cells #[.string t172, .string t173, .int .i64 t174, .bool t175] 60 (0, 0)) (by (with_reducible repeat (first | refine blk_drewN ?_ _ | refine blk_drew ?_ | refine blk_alloc ?_ _)); exact BK177.out)) : gb177 ≠ gb189)); have n13_ := Aside0.mk ((by rw [hg]; exact Nat.ne_of_gt (blk_lt (g := gb177) (o := .cells #[.string t172, .string t173, .int .i64 t174, .bool t175] 60 (0, 0)) (by (with_reducible repeat (first | refine blk_drewN ?_ _ | refine blk_drew ?_ | refine blk_alloc ?_ _)); exact BK177.out)) : gb189 ≠ gb177)); have n14_ := Aside0.mk ((by rw [hg]; exact Nat.ne_of_lt (blk_lt (g := gb183) (o := .cells #[.string t178, .string t179, .int .i64 t180, .bool t181] 60 (0, 0)) (by (with_reducible repeat (first | refine blk_drewN ?_ _ | refine blk_drew ?_ | refine blk_alloc ?_ _)); exact BK183.out)) : gb183 ≠ gb189)); have n15_ := Aside0.mk ((by rw [hg]; exact Nat.ne_of_gt (blk_lt (g := gb183) (o := .cells #[.string t178, .string t179, .int .i64 t180, .bool t181] 60 (0, 0)) (by (with_reducible repeat (first | refine blk_drewN ?_ _ | refine blk_drew ?_ | refine blk_alloc ?_ _)); exact BK183.out)) : gb189 ≠ gb183)); clear BK169; clear BK170; clear BK177; clear BK183; clear HB; have BK169 := n0_; have BK170 := n1_; have BK177 := n2_; have BK183 := n3_; have HB := n4_; have BK189 := n5_; have GW189 := n6_; have GE189 := n7_; have NB169_189 := n8_; have NB189_169 := n9_; have NB170_189 := n10_; have NB189_170 := n11_; have NB177_189 := n12_; have NB189_177 := n13_; have NB183_189 := n14_; have NB189_183 := n15_; clear n0_ n1_ n2_ n3_ n4_ n5_ n6_ n7_ n8_ n9_ n10_ n11_ n12_ n13_ n14_ n15_; clear hb hbox hg; have hnb52 := NB189_169.out; have hnc52 := NB169_189.out; have hnb53 := NB189_170.out; have hnc53 := NB170_189.out; have hnb54 := NB189_177.out; have hnc54 := NB177_189.out; have hnb55 := NB189_183.out; have hnc55 := NB183_189.out; have hcz56_0 : w51.cell? ⟨gb189, 0, none⟩ = some (.string (⟨#[]⟩ : ByteArray)) := (blk_cell BK189.out 0).trans rfl; have hcz56_1 : w51.cell? ⟨gb189, 1, none⟩ = some (.string (⟨#[]⟩ : ByteArray)) := (blk_cell BK189.out 1).trans rfl; have hcz56_2 : w51.cell? ⟨gb189, 2, none⟩ = some (.int .i64 0) := (blk_cell BK189.out 2).trans rfl; have hcz56_3 : w51.cell? ⟨gb189, 3, none⟩ = some (.bool false) := (blk_cell BK189.out 3).trans rfl; have hfz56_0 := blk_frozen BK189.out 0; have hfz56_1 := blk_frozen BK189.out 1; have hfz56_2 := blk_frozen BK189.out 2; have hfz56_3 := blk_frozen BK189.out 3; have hcz57_0 : w51.cell? ⟨gb170, 0, none⟩ = some (.string a0_0) := (blk_cell BK170.out 0).trans rfl; have hcz57_1 : w51.cell? ⟨gb170, 1, none⟩ = some (.string a0_1) := (blk_cell BK170.out 1).trans rfl; have hcz57_2 : w51.cell? ⟨gb170, 2, none⟩ = some (.int .i64 a0_2) := (blk_cell BK170.out 2).trans rfl; have hcz57_3 : w51.cell? ⟨gb170, 3, none⟩ = some (.bool a0_3) := (blk_cell BK170.out 3).trans rfl; have hfz57_0 := blk_frozen BK170.out 0; have hfz57_1 := blk_frozen BK170.out 1; have hfz57_2 := blk_frozen BK170.out 2; have hfz57_3 := blk_frozen BK170.out 3) | ((with_reducible refine gate_callee (f := 42) rfl ?_); refine goesL_ (some 56) rfl rfl Try.func42 (by kernel_rfl) rfl #[.agg #[.string a0_0, .string a0_1, .int .i64 a0_2, .bool a0_3]] rfl (by (try simp only [List.map_toArray, List.map_cons, List.map_nil]); first | done | rfl | (simp only [List.length_drop, List.length_take]; rfl)) ?_; (with_reducible refine (selvedgeref17_Sync.calls a0_0 a0_1 a0_2 a0_3 t190 t191 t192 t193 t194 _ A20.out).mono ?_); rintro e w58 ⟨rfl, hb⟩; refine ⟨_, rfl, ?_⟩; have n0_ := Aside0.mk (blk_below (g := gb169) (o := .cells #[.string a0_0, .string a0_1, .int .i64 a0_2, .bool a0_3, .string a0_4, .int .i64 a0_5, .int .i64 a0_6] 69 (0, 0)) (by (with_reducible repeat (first | refine blk_drewN ?_ _ | refine blk_drew ?_ | refine blk_alloc ?_ _)); refine blk_far ?_ NB169_189.out _; (with_reducible repeat (first | refine blk_drewN ?_ _ | refine blk_drew ?_ | refine blk_alloc ?_ _)); refine blk_far ?_ NB169_189.out _; (with_reducible repeat (first | refine blk_drewN ?_ _ | refine blk_drew ?_ | refine blk_alloc ?_ _)); refine blk_far ?_ NB169_189.out _; (with_reducible repeat (first | refine blk_drewN ?_ _ | refine blk_drew ?_ | refine blk_alloc ?_ _)); refine blk_far ?_ NB169_189.out _; (with_reducible repeat (first | refine blk_drewN ?_ _ | refine blk_drew ?_ | refine blk_alloc ?_ _)); exact BK169.out) hb); have n1_ := Aside0.mk (blk_below (g := gb170) (o := .cells #[.string a0_0, .string a0_1, .int .i64 a0_2, .bool a0_3] 60 (0, 0)) (by (with_reducible repeat (first | refine blk_drewN ?_ _ | refine blk_drew ?_ | refine blk_alloc ?_ _)); refine blk_far ?_ NB170_189.out _; (with_reducible repeat (first | refine blk_drewN ?_ _ | refine blk_drew ?_ | refine blk_alloc ?_ _)); refine blk_far ?_ NB170_189.out _; (with_reducible repeat (first | refine blk_drewN ?_ _ | refine blk_drew ?_ | refine blk_alloc ?_ _)); refine blk_far ?_ NB170_189.out _; (with_reducible repeat (first | refine blk_drewN ?_ _ | refine blk_drew ?_ | refine blk_alloc ?_ _)); refine blk_far ?_ NB170_189.out _; (with_reducible repeat (first | refine blk_drewN ?_ _ | refine blk_drew ?_ | refine blk_alloc ?_ _)); exact BK170.out) hb); have n2_ := Aside0.mk (blk_below (g := gb177) (o := .cells #[.string t172, .string t173, .int .i64 t174, .bool t175] 60 (0, 0)) (by (with_reducible repeat (first | refine blk_drewN ?_ _ | refine blk_drew ?_ | refine blk_alloc ?_ _)); refine blk_far ?_ NB177_189.out _; (with_reducible repeat (first | refine blk_drewN ?_ _ | refine blk_drew ?_ | refine blk_alloc ?_ _)); refine blk_far ?_ NB177_189.out _; (with_reducible repeat (first | refine blk_drewN ?_ _ | refine blk_drew ?_ | refine blk_alloc ?_ _)); refine blk_far ?_ NB177_189.out _; (with_reducible repeat (first | refine blk_drewN ?_ _ | refine blk_drew ?_ | refine blk_alloc ?_ _)); refine blk_far ?_ NB177_189.out _; (with_reducible repeat (first | refine blk_drewN ?_ _ | refine blk_drew ?_ | refine blk_alloc ?_ _)); exact BK177.out) hb); have n3_ := Aside0.mk (blk_below (g := gb183) (o := .cells #[.string t178, .string t179, .int .i64 t180, .bool t181] 60 (0, 0)) (by (with_reducible repeat (first | refine blk_drewN ?_ _ | refine blk_drew ?_ | refine blk_alloc ?_ _)); refine blk_far ?_ NB183_189.out _; (with_reducible repeat (first | refine blk_drewN ?_ _ | refine blk_drew ?_ | refine blk_alloc ?_ _)); refine blk_far ?_ NB183_189.out _; (with_reducible repeat (first | refine blk_drewN ?_ _ | refine blk_drew ?_ | refine blk_alloc ?_ _)); refine blk_far ?_ NB183_189.out _; (with_reducible repeat (first | refine blk_drewN ?_ _ | refine blk_drew ?_ | refine blk_alloc ?_ _)); refine blk_far ?_ NB183_189.out _; (with_reducible repeat (first | refine blk_drewN ?_ _ | refine blk_drew ?_ | refine blk_alloc ?_ _)); exact BK183.out) hb); have n4_ := Aside0.mk (blk_below (g := gb189) (o := .cells #[.string t184, .string t185, .int .i64 t186, .bool t187] 60 (0, 0)) (by (with_reducible repeat (first | refine blk_drewN ?_ _ | refine blk_drew ?_ | refine blk_alloc ?_ _)); refine blk_put (cs := #[.string t184, .string t185, .int .i64 t186, .bool false]) ?_ 3 _ rfl; (with_reducible repeat (first | refine blk_drewN ?_ _ | refine blk_drew ?_ | refine blk_alloc ?_ _)); refine blk_put (cs := #[.string t184, .string t185, .int .i64 0, .bool false]) ?_ 2 _ rfl; (with_reducible repeat (first | refine blk_drewN ?_ _ | refine blk_drew ?_ | refine blk_alloc ?_ _)); refine blk_put (cs := #[.string t184, .string (⟨#[]⟩ : ByteArray), .int .i64 0, .bool false]) ?_ 1 _ rfl; (with_reducible repeat (first | refine blk_drewN ?_ _ | refine blk_drew ?_ | refine blk_alloc ?_ _)); refine blk_put (cs := #[.string (⟨#[]⟩ : ByteArray), .string (⟨#[]⟩ : ByteArray), .int .i64 0, .bool false]) ?_ 0 _ rfl; (with_reducible repeat (first | refine blk_drewN ?_ _ | refine blk_drew ?_ | refine blk_alloc ?_ _)); exact BK189.out) hb); have n5_ := Aside0.mk (below_step (by repeat (first | (with_reducible first | exact HB.out | apply below_alloc | apply pw_below_drewN | apply below_drew1 | refine below_set ?_ GE169.out | refine below_set ?_ GE170.out | refine below_set ?_ GE177.out | refine below_set ?_ GE183.out | refine below_set ?_ GE189.out) | exact HB.out)) hb); clear BK169; clear BK170; clear BK177; clear BK183; clear BK189; clear HB; have BK169 := n0_; have BK170 := n1_; have BK177 := n2_; have BK183 := n3_; have BK189 := n4_; have HB := n5_; clear n0_ n1_ n2_ n3_ n4_ n5_; (try clear hb); (try clear hb2); (try clear hk); (try clear hi)) | ((with_reducible refine gate_dst (N := 14) rfl ?_); (try (refine gate_guard (by rfl) ?_; dsimp only)); refine box_event ?hg (N := 14) ?hd (cs := #[.string (⟨#[]⟩ : ByteArray), .string (⟨#[]⟩ : ByteArray), .int .i64 0, .bool false]) (t := 60) ?hr ?_; (case hd => rfl); (case hg => rfl); (case hr => first | (go_simp; done) | (go_simp; rfl)); intro gb195 hg w59 hbox hb; have n0_ := Aside0.mk (blk_below (g := gb169) (o := .cells #[.string a0_0, .string a0_1, .int .i64 a0_2, .bool a0_3, .string a0_4, .int .i64 a0_5, .int .i64 a0_6] 69 (0, 0)) (by (with_reducible repeat (first | refine blk_drewN ?_ _ | refine blk_drew ?_ | refine blk_alloc ?_ _)); exact BK169.out) hb); have n1_ := Aside0.mk (blk_below (g := gb170) (o := .cells #[.string a0_0, .string a0_1, .int .i64 a0_2, .bool a0_3] 60 (0, 0)) (by (with_reducible repeat (first | refine blk_drewN ?_ _ | refine blk_drew ?_ | refine blk_alloc ?_ _)); exact BK170.out) hb); have n2_ := Aside0.mk (blk_below (g := gb177) (o := .cells #[.string t172, .string t173, .int .i64 t174, .bool t175] 60 (0, 0)) (by (with_reducible repeat (first | refine blk_drewN ?_ _ | refine blk_drew ?_ | refine blk_alloc ?_ _)); exact BK177.out) hb); have n3_ := Aside0.mk (blk_below (g := gb183) (o := .cells #[.string t178, .string t179, .int .i64 t180, .bool t181] 60 (0, 0)) (by (with_reducible repeat (first | refine blk_drewN ?_ _ | refine blk_drew ?_ | refine blk_alloc ?_ _)); exact BK183.out) hb); have n4_ := Aside0.mk (blk_below (g := gb189) (o := .cells #[.string t184, .string t185, .int .i64 t186, .bool t187] 60 (0, 0)) (by (with_reducible repeat (first | refine blk_drewN ?_ _ | refine blk_drew ?_ | refine blk_alloc ?_ _)); exact BK189.out) hb); have n5_ := Aside0.mk (below_step (by repeat (first | (with_reducible first | exact HB.out | apply below_alloc | apply pw_below_drewN | apply below_drew1 | refine below_set ?_ GE169.out | refine below_set ?_ GE170.out | refine below_set ?_ GE177.out | refine below_set ?_ GE183.out | refine below_set ?_ GE189.out) | exact HB.out)) hb); have n6_ := Aside0.mk (hbox); have n7_ := Aside0.mk ((by rw [hg]; exact (below_size (by repeat (first | (with_reducible first | exact HB.out | apply below_alloc | apply pw_below_drewN | apply below_drew1 | refine below_set ?_ GE169.out | refine below_set ?_ GE170.out | refine below_set ?_ GE177.out | refine below_set ?_ GE183.out | refine below_set ?_ GE189.out) | exact HB.out))) : w.heap.size ≤ gb195)); have n8_ := Aside0.mk ((by rw [hg]; exact (below_size (by repeat (first | (with_reducible first | exact HB.out | apply below_alloc | apply pw_below_drewN | apply below_drew1 | refine below_set ?_ GE169.out | refine below_set ?_ GE170.out | refine below_set ?_ GE177.out | refine below_set ?_ GE183.out | refine below_set ?_ GE189.out) | exact HB.out))) : w.heap.size ≤ gb195)); have n9_ := Aside0.mk ((by rw [hg]; exact Nat.ne_of_lt (blk_lt (g := gb169) (o := .cells #[.string a0_0, .string a0_1, .int .i64 a0_2, .bool a0_3, .string a0_4, .int .i64 a0_5, .int .i64 a0_6] 69 (0, 0)) (by (with_reducible repeat (first | refine blk_drewN ?_ _ | refine blk_drew ?_ | refine blk_alloc ?_ _)); exact BK169.out)) : gb169 ≠ gb195)); have n10_ := Aside0.mk ((by rw [hg]; exact Nat.ne_of_gt (blk_lt (g := gb169) (o := .cells #[.string a0_0, .string a0_1, .int .i64 a0_2, .bool a0_3, .string a0_4, .int .i64 a0_5, .int .i64 a0_6] 69 (0, 0)) (by (with_reducible repeat (first | refine blk_drewN ?_ _ | refine blk_drew ?_ | refine blk_alloc ?_ _)); exact BK169.out)) : gb195 ≠ gb169)); have n11_ := Aside0.mk ((by rw [hg]; exact Nat.ne_of_lt (blk_lt (g := gb170) (o := .cells #[.string a0_0, .string a0_1, .int .i64 a0_2, .bool a0_3] 60 (0, 0)) (by (with_reducible repeat (first | refine blk_drewN ?_ _ | refine blk_drew ?_ | refine blk_alloc ?_ _)); exact BK170.out)) : gb170 ≠ gb195)); have n12_ := Aside0.mk ((by rw [hg]; exact Nat.ne_of_gt (blk_lt (g := gb170) (o := .cells #[.string a0_0, .string a0_1, .int .i64 a0_2, .bool a0_3] 60 (0, 0)) (by (with_reducible repeat (first | refine blk_drewN ?_ _ | refine blk_drew ?_ | refine blk_alloc ?_ _)); exact BK170.out)) : gb195 ≠ gb170)); have n13_ := Aside0.mk ((by rw [hg]; exact Nat.ne_of_lt (blk_lt (g := gb177) (o := .cells #[.string t172, .string t173, .int .i64 t174, .bool t175] 60 (0, 0)) (by (with_reducible repeat (first | refine blk_drewN ?_ _ | refine blk_drew ?_ | refine blk_alloc ?_ _)); exact BK177.out)) : gb177 ≠ gb195)); have n14_ := Aside0.mk ((by rw [hg]; exact Nat.ne_of_gt (blk_lt (g := gb177) (o := .cells #[.string t172, .string t173, .int .i64 t174, .bool t175] 60 (0, 0)) (by (with_reducible repeat (first | refine blk_drewN ?_ _ | refine blk_drew ?_ | refine blk_alloc ?_ _)); exact BK177.out)) : gb195 ≠ gb177)); have n15_ := Aside0.mk ((by rw [hg]; exact Nat.ne_of_lt (blk_lt (g := gb183) (o := .cells #[.string t178, .string t179, .int .i64 t180, .bool t181] 60 (0, 0)) (by (with_reducible repeat (first | refine blk_drewN ?_ _ | refine blk_drew ?_ | refine blk_alloc ?_ _)); exact BK183.out)) : gb183 ≠ gb195)); have n16_ := Aside0.mk ((by rw [hg]; exact Nat.ne_of_gt (blk_lt (g := gb183) (o := .cells #[.string t178, .string t179, .int .i64 t180, .bool t181] 60 (0, 0)) (by (with_reducible repeat (first | refine blk_drewN ?_ _ | refine blk_drew ?_ | refine blk_alloc ?_ _)); exact BK183.out)) : gb195 ≠ gb183)); have n17_ := Aside0.mk ((by rw [hg]; exact Nat.ne_of_lt (blk_lt (g := gb189) (o := .cells #[.string t184, .string t185, .int .i64 t186, .bool t187] 60 (0, 0)) (by (with_reducible repeat (first | refine blk_drewN ?_ _ | refine blk_drew ?_ | refine blk_alloc ?_ _)); exact BK189.out)) : gb189 ≠ gb195)); have n18_ := Aside0.mk ((by rw [hg]; exact Nat.ne_of_gt (blk_lt (g := gb189) (o := .cells #[.string t184, .string t185, .int .i64 t186, .bool t187] 60 (0, 0)) (by (with_reducible repeat (first | refine blk_drewN ?_ _ | refine blk_drew ?_ | refine blk_alloc ?_ _)); exact BK189.out)) : gb195 ≠ gb189)); clear BK169; clear BK170; clear BK177; clear BK183; clear BK189; clear HB; have BK169 := n0_; have BK170 := n1_; have BK177 := n2_; have BK183 := n3_; have BK189 := n4_; have HB := n5_; have BK195 := n6_; have GW195 := n7_; have GE195 := n8_; have NB169_195 := n9_; have NB195_169 := n10_; have NB170_195 := n11_; have NB195_170 := n12_; have NB177_195 := n13_; have NB195_177 := n14_; have NB183_195 := n15_; have NB195_183 := n16_; have NB189_195 := n17_; have NB195_189 := n18_; clear n0_ n1_ n2_ n3_ n4_ n5_ n6_ n7_ n8_ n9_ n10_ n11_ n12_ n13_ n14_ n15_ n16_ n17_ n18_; clear hb hbox hg; have hnb60 := NB195_169.out; have hnc60 := NB169_195.out; have hnb61 := NB195_170.out; have hnc61 := NB170_195.out; have hnb62 := NB195_177.out; have hnc62 := NB177_195.out; have hnb63 := NB195_183.out; have hnc63 := NB183_195.out; have hnb64 := NB195_189.out; have hnc64 := NB189_195.out; have hcz65_0 : w59.cell? ⟨gb195, 0, none⟩ = some (.string (⟨#[]⟩ : ByteArray)) := (blk_cell BK195.out 0).trans rfl; have hcz65_1 : w59.cell? ⟨gb195, 1, none⟩ = some (.string (⟨#[]⟩ : ByteArray)) := (blk_cell BK195.out 1).trans rfl; have hcz65_2 : w59.cell? ⟨gb195, 2, none⟩ = some (.int .i64 0) := (blk_cell BK195.out 2).trans rfl; have hcz65_3 : w59.cell? ⟨gb195, 3, none⟩ = some (.bool false) := (blk_cell BK195.out 3).trans rfl; have hfz65_0 := blk_frozen BK195.out 0; have hfz65_1 := blk_frozen BK195.out 1; have hfz65_2 := blk_frozen BK195.out 2; have hfz65_3 := blk_frozen BK195.out 3))
                      have n0_ : Aside0 (((((w59.setCell ⟨gb195, 0, none⟩ (.string t190)).setCell ⟨gb195, 1, none⟩ (.string t191)).setCell ⟨gb195, 2, none⟩ (.int .i64 t192)).setCell ⟨gb195, 3, none⟩ (.bool t193)).heap[gb169]? = some (.cells #[.string a0_0, .string a0_1, .int .i64 a0_2, .bool a0_3, .string a0_4, .int .i64 a0_5, .int .i64 a0_6] 69 (0, 0))) := ⟨by (with_reducible repeat (first | refine blk_drewN ?_ _ | refine blk_drew ?_ | refine blk_alloc ?_ _)); refine blk_far ?_ NB169_195.out _; (with_reducible repeat (first | refine blk_drewN ?_ _ | refine blk_drew ?_ | refine blk_alloc ?_ _)); refine blk_far ?_ NB169_195.out _; (with_reducible repeat (first | refine blk_drewN ?_ _ | refine blk_drew ?_ | refine blk_alloc ?_ _)); refine blk_far ?_ NB169_195.out _; (with_reducible repeat (first | refine blk_drewN ?_ _ | refine blk_drew ?_ | refine blk_alloc ?_ _)); refine blk_far ?_ NB169_195.out _; (with_reducible repeat (first | refine blk_drewN ?_ _ | refine blk_drew ?_ | refine blk_alloc ?_ _)); exact BK169.out⟩
                      have n1_ : Aside0 (((((w59.setCell ⟨gb195, 0, none⟩ (.string t190)).setCell ⟨gb195, 1, none⟩ (.string t191)).setCell ⟨gb195, 2, none⟩ (.int .i64 t192)).setCell ⟨gb195, 3, none⟩ (.bool t193)).heap[gb170]? = some (.cells #[.string a0_0, .string a0_1, .int .i64 a0_2, .bool a0_3] 60 (0, 0))) := ⟨by (with_reducible repeat (first | refine blk_drewN ?_ _ | refine blk_drew ?_ | refine blk_alloc ?_ _)); refine blk_far ?_ NB170_195.out _; (with_reducible repeat (first | refine blk_drewN ?_ _ | refine blk_drew ?_ | refine blk_alloc ?_ _)); refine blk_far ?_ NB170_195.out _; (with_reducible repeat (first | refine blk_drewN ?_ _ | refine blk_drew ?_ | refine blk_alloc ?_ _)); refine blk_far ?_ NB170_195.out _; (with_reducible repeat (first | refine blk_drewN ?_ _ | refine blk_drew ?_ | refine blk_alloc ?_ _)); refine blk_far ?_ NB170_195.out _; (with_reducible repeat (first | refine blk_drewN ?_ _ | refine blk_drew ?_ | refine blk_alloc ?_ _)); exact BK170.out⟩
                      have n2_ : Aside0 (((((w59.setCell ⟨gb195, 0, none⟩ (.string t190)).setCell ⟨gb195, 1, none⟩ (.string t191)).setCell ⟨gb195, 2, none⟩ (.int .i64 t192)).setCell ⟨gb195, 3, none⟩ (.bool t193)).heap[gb177]? = some (.cells #[.string t172, .string t173, .int .i64 t174, .bool t175] 60 (0, 0))) := ⟨by (with_reducible repeat (first | refine blk_drewN ?_ _ | refine blk_drew ?_ | refine blk_alloc ?_ _)); refine blk_far ?_ NB177_195.out _; (with_reducible repeat (first | refine blk_drewN ?_ _ | refine blk_drew ?_ | refine blk_alloc ?_ _)); refine blk_far ?_ NB177_195.out _; (with_reducible repeat (first | refine blk_drewN ?_ _ | refine blk_drew ?_ | refine blk_alloc ?_ _)); refine blk_far ?_ NB177_195.out _; (with_reducible repeat (first | refine blk_drewN ?_ _ | refine blk_drew ?_ | refine blk_alloc ?_ _)); refine blk_far ?_ NB177_195.out _; (with_reducible repeat (first | refine blk_drewN ?_ _ | refine blk_drew ?_ | refine blk_alloc ?_ _)); exact BK177.out⟩
                      have n3_ : Aside0 (((((w59.setCell ⟨gb195, 0, none⟩ (.string t190)).setCell ⟨gb195, 1, none⟩ (.string t191)).setCell ⟨gb195, 2, none⟩ (.int .i64 t192)).setCell ⟨gb195, 3, none⟩ (.bool t193)).heap[gb183]? = some (.cells #[.string t178, .string t179, .int .i64 t180, .bool t181] 60 (0, 0))) := ⟨by (with_reducible repeat (first | refine blk_drewN ?_ _ | refine blk_drew ?_ | refine blk_alloc ?_ _)); refine blk_far ?_ NB183_195.out _; (with_reducible repeat (first | refine blk_drewN ?_ _ | refine blk_drew ?_ | refine blk_alloc ?_ _)); refine blk_far ?_ NB183_195.out _; (with_reducible repeat (first | refine blk_drewN ?_ _ | refine blk_drew ?_ | refine blk_alloc ?_ _)); refine blk_far ?_ NB183_195.out _; (with_reducible repeat (first | refine blk_drewN ?_ _ | refine blk_drew ?_ | refine blk_alloc ?_ _)); refine blk_far ?_ NB183_195.out _; (with_reducible repeat (first | refine blk_drewN ?_ _ | refine blk_drew ?_ | refine blk_alloc ?_ _)); exact BK183.out⟩
                      have n4_ : Aside0 (((((w59.setCell ⟨gb195, 0, none⟩ (.string t190)).setCell ⟨gb195, 1, none⟩ (.string t191)).setCell ⟨gb195, 2, none⟩ (.int .i64 t192)).setCell ⟨gb195, 3, none⟩ (.bool t193)).heap[gb189]? = some (.cells #[.string t184, .string t185, .int .i64 t186, .bool t187] 60 (0, 0))) := ⟨by (with_reducible repeat (first | refine blk_drewN ?_ _ | refine blk_drew ?_ | refine blk_alloc ?_ _)); refine blk_far ?_ NB189_195.out _; (with_reducible repeat (first | refine blk_drewN ?_ _ | refine blk_drew ?_ | refine blk_alloc ?_ _)); refine blk_far ?_ NB189_195.out _; (with_reducible repeat (first | refine blk_drewN ?_ _ | refine blk_drew ?_ | refine blk_alloc ?_ _)); refine blk_far ?_ NB189_195.out _; (with_reducible repeat (first | refine blk_drewN ?_ _ | refine blk_drew ?_ | refine blk_alloc ?_ _)); refine blk_far ?_ NB189_195.out _; (with_reducible repeat (first | refine blk_drewN ?_ _ | refine blk_drew ?_ | refine blk_alloc ?_ _)); exact BK189.out⟩
                      have n5_ : Aside0 (((((w59.setCell ⟨gb195, 0, none⟩ (.string t190)).setCell ⟨gb195, 1, none⟩ (.string t191)).setCell ⟨gb195, 2, none⟩ (.int .i64 t192)).setCell ⟨gb195, 3, none⟩ (.bool t193)).heap[gb195]? = some (.cells #[.string t190, .string t191, .int .i64 t192, .bool t193] 60 (0, 0))) := ⟨by (with_reducible repeat (first | refine blk_drewN ?_ _ | refine blk_drew ?_ | refine blk_alloc ?_ _)); refine blk_put (cs := #[.string t190, .string t191, .int .i64 t192, .bool false]) ?_ 3 _ rfl; (with_reducible repeat (first | refine blk_drewN ?_ _ | refine blk_drew ?_ | refine blk_alloc ?_ _)); refine blk_put (cs := #[.string t190, .string t191, .int .i64 0, .bool false]) ?_ 2 _ rfl; (with_reducible repeat (first | refine blk_drewN ?_ _ | refine blk_drew ?_ | refine blk_alloc ?_ _)); refine blk_put (cs := #[.string t190, .string (⟨#[]⟩ : ByteArray), .int .i64 0, .bool false]) ?_ 1 _ rfl; (with_reducible repeat (first | refine blk_drewN ?_ _ | refine blk_drew ?_ | refine blk_alloc ?_ _)); refine blk_put (cs := #[.string (⟨#[]⟩ : ByteArray), .string (⟨#[]⟩ : ByteArray), .int .i64 0, .bool false]) ?_ 0 _ rfl; (with_reducible repeat (first | refine blk_drewN ?_ _ | refine blk_drew ?_ | refine blk_alloc ?_ _)); exact BK195.out⟩
                      have n6_ : Aside0 (Below w.heap.size w ((((w59.setCell ⟨gb195, 0, none⟩ (.string t190)).setCell ⟨gb195, 1, none⟩ (.string t191)).setCell ⟨gb195, 2, none⟩ (.int .i64 t192)).setCell ⟨gb195, 3, none⟩ (.bool t193))) := ⟨by repeat (first | (with_reducible first | exact HB.out | apply below_alloc | apply pw_below_drewN | apply below_drew1 | refine below_set ?_ GE169.out | refine below_set ?_ GE170.out | refine below_set ?_ GE177.out | refine below_set ?_ GE183.out | refine below_set ?_ GE189.out | refine below_set ?_ GE195.out) | exact HB.out)⟩
                      (try clear BK169)
                      (try clear BK170)
                      (try clear BK177)
                      (try clear BK183)
                      (try clear BK189)
                      (try clear BK195)
                      (try clear HB)
                      generalize ((((w59.setCell ⟨gb195, 0, none⟩ (.string t190)).setCell ⟨gb195, 1, none⟩ (.string t191)).setCell ⟨gb195, 2, none⟩ (.int .i64 t192)).setCell ⟨gb195, 3, none⟩ (.bool t193)) = w66 at n0_ n1_ n2_ n3_ n4_ n5_ n6_ ⊢
                      have BK169 := n0_
                      have BK170 := n1_
                      have BK177 := n2_
                      have BK183 := n3_
                      have BK189 := n4_
                      have BK195 := n5_
                      have HB := n6_
                      clear n0_ n1_ n2_ n3_ n4_ n5_ n6_
                      have n0_ := Aside0.mk (blk_drew BK169.out)
                      have n1_ := Aside0.mk (blk_drew BK170.out)
                      have n2_ := Aside0.mk (blk_drew BK177.out)
                      have n3_ := Aside0.mk (blk_drew BK183.out)
                      have n4_ := Aside0.mk (blk_drew BK189.out)
                      have n5_ := Aside0.mk (blk_drew BK195.out)
                      have n6_ := Aside0.mk (below_drew1 HB.out)
                      clear BK169
                      clear BK170
                      clear BK177
                      clear BK183
                      clear BK189
                      clear BK195
                      clear HB
                      have BK169 := n0_
                      have BK170 := n1_
                      have BK177 := n2_
                      have BK183 := n3_
                      have BK189 := n4_
                      have BK195 := n5_
                      have HB := n6_
                      clear n0_ n1_ n2_ n3_ n4_ n5_ n6_
                      refine start_ (n := 6) (S := fun w' => w'.cell? ⟨gb170, 0, none⟩ = some (.string a0_0) ∧ w'.cell? ⟨gb170, 1, none⟩ = some (.string a0_1) ∧ w'.cell? ⟨gb170, 2, none⟩ = some (.int .i64 a0_2) ∧ w'.cell? ⟨gb170, 3, none⟩ = some (.bool a0_3)) (ds := []) #[false, false, false, false, false, false] (by kernel_rfl) rfl rfl ⟨(blk_cell BK170.out 0).trans rfl, (blk_cell BK170.out 1).trans rfl, (blk_cell BK170.out 2).trans rfl, (blk_cell BK170.out 3).trans rfl⟩ (fun hHeld => ?_)
                      generalize w66.drew = w67 at BK169 BK170 BK177 BK183 BK189 BK195 HB hHeld ⊢
                      refine take_ (i := 0) (N := some 59) (v := ?_) (a' := ?_) #[true, false, false, false, false, false] rfl rfl (by kernel_rfl) (fun _ _ _ h => h) (Or.inl ⟨by rfl, ?_⟩) hHeld ?_ ?_
                      rotate_left
                      · rintro w' ⟨s0, s1, s2, s3⟩
                        go_simp
                        with_reducible rfl
                      rotate_left
                      · simp only [Act.put, List.setIfInBounds_toArray, List.set_cons_zero, List.set_cons_succ, i64_w, i32_w]
                        rfl
                      refine take_ (i := 2) (N := some 61) (v := ?_) (a' := ?_) #[true, false, true, false, false, false] rfl rfl (by kernel_rfl) (fun _ _ _ h => h) (Or.inl ⟨by rfl, ?_⟩) hHeld ?_ ?_
                      rotate_left
                      · rintro w' ⟨s0, s1, s2, s3⟩
                        go_simp
                        with_reducible rfl
                      rotate_left
                      · simp only [Act.put, List.setIfInBounds_toArray, List.set_cons_zero, List.set_cons_succ, i64_w, i32_w]
                        rfl
                      refine one_ (i := 1) (N := some 60) #[true, true, true, false, false, false] rfl rfl (by kernel_rfl) (by decide) (fun K hK => ?_)
                      refine goes_ Try.func40 (by kernel_rfl) rfl #[.agg #[.string a0_0, .string a0_1, .int .i64 a0_2, .bool a0_3]] (by rfl) rfl rfl (by (try simp only [List.map_toArray, List.map_cons, List.map_nil]); first | done | rfl | (simp only [List.length_drop, List.length_take]; rfl)) ?_
                      with_reducible refine (paper_Records.calls kj2 a0_0 a0_1 a0_2 a0_3 t196 _ A21.out).mono ?_
                      rintro e w68 ⟨v197, rfl, ho0, hb⟩
                      refine ⟨_, rfl, ?_⟩
                      have n0_ := Aside0.mk (Kd.R_lower ho0 (below_size (by repeat (first | (with_reducible first | exact HB.out | apply below_alloc | apply pw_below_drewN | apply below_drew1 | refine below_set ?_ GE169.out | refine below_set ?_ GE170.out | refine below_set ?_ GE177.out | refine below_set ?_ GE183.out | refine below_set ?_ GE189.out | refine below_set ?_ GE195.out) | exact HB.out))))
                      have n1_ := Aside0.mk (blk_below (g := gb169) (o := .cells #[.string a0_0, .string a0_1, .int .i64 a0_2, .bool a0_3, .string a0_4, .int .i64 a0_5, .int .i64 a0_6] 69 (0, 0)) (by (with_reducible repeat (first | refine blk_drewN ?_ _ | refine blk_drew ?_ | refine blk_alloc ?_ _)); exact BK169.out) hb)
                      have n2_ := Aside0.mk (blk_below (g := gb170) (o := .cells #[.string a0_0, .string a0_1, .int .i64 a0_2, .bool a0_3] 60 (0, 0)) (by (with_reducible repeat (first | refine blk_drewN ?_ _ | refine blk_drew ?_ | refine blk_alloc ?_ _)); exact BK170.out) hb)
                      have n3_ := Aside0.mk (blk_below (g := gb177) (o := .cells #[.string t172, .string t173, .int .i64 t174, .bool t175] 60 (0, 0)) (by (with_reducible repeat (first | refine blk_drewN ?_ _ | refine blk_drew ?_ | refine blk_alloc ?_ _)); exact BK177.out) hb)
                      have n4_ := Aside0.mk (blk_below (g := gb183) (o := .cells #[.string t178, .string t179, .int .i64 t180, .bool t181] 60 (0, 0)) (by (with_reducible repeat (first | refine blk_drewN ?_ _ | refine blk_drew ?_ | refine blk_alloc ?_ _)); exact BK183.out) hb)
                      have n5_ := Aside0.mk (blk_below (g := gb189) (o := .cells #[.string t184, .string t185, .int .i64 t186, .bool t187] 60 (0, 0)) (by (with_reducible repeat (first | refine blk_drewN ?_ _ | refine blk_drew ?_ | refine blk_alloc ?_ _)); exact BK189.out) hb)
                      have n6_ := Aside0.mk (blk_below (g := gb195) (o := .cells #[.string t190, .string t191, .int .i64 t192, .bool t193] 60 (0, 0)) (by (with_reducible repeat (first | refine blk_drewN ?_ _ | refine blk_drew ?_ | refine blk_alloc ?_ _)); exact BK195.out) hb)
                      have n7_ := Aside0.mk (below_step (by repeat (first | (with_reducible first | exact HB.out | apply below_alloc | apply pw_below_drewN | apply below_drew1 | refine below_set ?_ GE169.out | refine below_set ?_ GE170.out | refine below_set ?_ GE177.out | refine below_set ?_ GE183.out | refine below_set ?_ GE189.out | refine below_set ?_ GE195.out) | exact HB.out)) hb)
                      clear BK169
                      clear BK170
                      clear BK177
                      clear BK183
                      clear BK189
                      clear BK195
                      clear HB
                      have HO198 := n0_
                      have BK169 := n1_
                      have BK170 := n2_
                      have BK177 := n3_
                      have BK183 := n4_
                      have BK189 := n5_
                      have BK195 := n6_
                      have HB := n7_
                      clear n0_ n1_ n2_ n3_ n4_ n5_ n6_ n7_
                      (try clear hb)
                      (try clear hb2)
                      (try clear hk)
                      (try clear hi)
                      (try clear ho0)
                      refine hK.out _ _ ⟨(blk_cell BK170.out 0).trans rfl, (blk_cell BK170.out 1).trans rfl, (blk_cell BK170.out 2).trans rfl, (blk_cell BK170.out 3).trans rfl⟩ (fun hHeld => ?_)
                      clear hK K
                      refine norm_ (a' := ?_) ?_ ?_
                      rotate_left
                      · show Act.put _ (some 60) _ = _
                        simp only [Act.put, List.setIfInBounds_toArray, List.set_cons_zero, List.set_cons_succ, i64_w, i32_w]
                        rfl
                      refine one_ (i := 3) (N := some 62) #[true, true, true, true, false, false] rfl rfl (by kernel_rfl) (by decide) (fun K hK => ?_)
                      refine goes_ Try.func43 (by kernel_rfl) rfl #[.agg #[.string a0_0, .string a0_1, .int .i64 a0_2, .bool a0_3]] (by rfl) rfl rfl (by (try simp only [List.map_toArray, List.map_cons, List.map_nil]); first | done | rfl | (simp only [List.length_drop, List.length_take]; rfl)) ?_
                      with_reducible refine (selvedgeref17_Records.calls kj2 a0_0 a0_1 a0_2 a0_3 t199 _ A22.out).mono ?_
                      rintro e w69 ⟨v200, rfl, ho0, hb⟩
                      refine ⟨_, rfl, ?_⟩
                      have n0_ := Aside0.mk (Kd.R_elder' (by (with_reducible repeat (first | apply Kd.R_alloc | apply Kd.R_drewN | apply Kd.R_drew)); exact HO198.out) (Kd.R_base ho0) hb)
                      have n1_ := Aside0.mk (Kd.R_lower (Kd.R_new' ho0 (Kd.R_lt (by (with_reducible repeat (first | apply Kd.R_alloc | apply Kd.R_drewN | apply Kd.R_drew)); exact HO198.out))) (below_size (by repeat (first | (with_reducible first | exact HB.out | apply below_alloc | apply pw_below_drewN | apply below_drew1 | refine below_set ?_ GE169.out | refine below_set ?_ GE170.out | refine below_set ?_ GE177.out | refine below_set ?_ GE183.out | refine below_set ?_ GE189.out | refine below_set ?_ GE195.out) | exact HB.out))))
                      have n2_ := Aside0.mk (blk_below (g := gb169) (o := .cells #[.string a0_0, .string a0_1, .int .i64 a0_2, .bool a0_3, .string a0_4, .int .i64 a0_5, .int .i64 a0_6] 69 (0, 0)) (by (with_reducible repeat (first | refine blk_drewN ?_ _ | refine blk_drew ?_ | refine blk_alloc ?_ _)); exact BK169.out) hb)
                      have n3_ := Aside0.mk (blk_below (g := gb170) (o := .cells #[.string a0_0, .string a0_1, .int .i64 a0_2, .bool a0_3] 60 (0, 0)) (by (with_reducible repeat (first | refine blk_drewN ?_ _ | refine blk_drew ?_ | refine blk_alloc ?_ _)); exact BK170.out) hb)
                      have n4_ := Aside0.mk (blk_below (g := gb177) (o := .cells #[.string t172, .string t173, .int .i64 t174, .bool t175] 60 (0, 0)) (by (with_reducible repeat (first | refine blk_drewN ?_ _ | refine blk_drew ?_ | refine blk_alloc ?_ _)); exact BK177.out) hb)
                      have n5_ := Aside0.mk (blk_below (g := gb183) (o := .cells #[.string t178, .string t179, .int .i64 t180, .bool t181] 60 (0, 0)) (by (with_reducible repeat (first | refine blk_drewN ?_ _ | refine blk_drew ?_ | refine blk_alloc ?_ _)); exact BK183.out) hb)
                      have n6_ := Aside0.mk (blk_below (g := gb189) (o := .cells #[.string t184, .string t185, .int .i64 t186, .bool t187] 60 (0, 0)) (by (with_reducible repeat (first | refine blk_drewN ?_ _ | refine blk_drew ?_ | refine blk_alloc ?_ _)); exact BK189.out) hb)
                      have n7_ := Aside0.mk (blk_below (g := gb195) (o := .cells #[.string t190, .string t191, .int .i64 t192, .bool t193] 60 (0, 0)) (by (with_reducible repeat (first | refine blk_drewN ?_ _ | refine blk_drew ?_ | refine blk_alloc ?_ _)); exact BK195.out) hb)
                      have n8_ := Aside0.mk (below_step (by repeat (first | (with_reducible first | exact HB.out | apply below_alloc | apply pw_below_drewN | apply below_drew1 | refine below_set ?_ GE169.out | refine below_set ?_ GE170.out | refine below_set ?_ GE177.out | refine below_set ?_ GE183.out | refine below_set ?_ GE189.out | refine below_set ?_ GE195.out) | exact HB.out)) hb)
                      clear HO198
                      clear BK169
                      clear BK170
                      clear BK177
                      clear BK183
                      clear BK189
                      clear BK195
                      clear HB
                      have HO198 := n0_
                      have HO201 := n1_
                      have BK169 := n2_
                      have BK170 := n3_
                      have BK177 := n4_
                      have BK183 := n5_
                      have BK189 := n6_
                      have BK195 := n7_
                      have HB := n8_
                      clear n0_ n1_ n2_ n3_ n4_ n5_ n6_ n7_ n8_
                      (try clear hb)
                      (try clear hb2)
                      (try clear hk)
                      (try clear hi)
                      (try clear ho0)
                      obtain ⟨Ao70, co70, eo70⟩ := Kd.R_slice HO198.out
                      (first | subst eo70 | (injection eo70 with f1_ f2_ f3_; have f4_ := f1_.symm; have f5_ := f3_.symm; clear f1_ f2_ f3_; subst f4_; subst f5_))
                      obtain ⟨Ao71, co71, eo71⟩ := Kd.R_slice HO201.out
                      (first | subst eo71 | (injection eo71 with f1_ f2_ f3_; have f4_ := f1_.symm; have f5_ := f3_.symm; clear f1_ f2_ f3_; subst f4_; subst f5_))
                      refine hK.out _ _ ⟨(blk_cell BK170.out 0).trans rfl, (blk_cell BK170.out 1).trans rfl, (blk_cell BK170.out 2).trans rfl, (blk_cell BK170.out 3).trans rfl⟩ (fun hHeld => ?_)
                      clear hK K
                      refine norm_ (a' := ?_) ?_ ?_
                      rotate_left
                      · show Act.put _ (some 62) _ = _
                        simp only [Act.put, List.setIfInBounds_toArray, List.set_cons_zero, List.set_cons_succ, i64_w, i32_w]
                        rfl
                      refine one_ (i := 4) (N := some 63) #[true, true, true, true, true, false] rfl rfl (by kernel_rfl) (by decide) (fun K hK => ?_)
                      refine goes_ Try.func28 (by kernel_rfl) rfl #[.slice Ao70 t196.length co70, .slice Ao71 t199.length co71] (by rfl) rfl rfl (by (try simp only [List.map_toArray, List.map_cons, List.map_nil]); first | done | rfl | (simp only [List.length_drop, List.length_take]; rfl)) ?_
                      with_reducible refine (selvedgeref01_Same.calls kj2 _ _ t196 _ _ t199 true _ ?side1 ?side2 ?side3 ?side4 A23.out).mono ?_
                      (case side1 => repeat (first | exact (Kd.R_reads' HO198.out).2.2 | (with_reducible refine Kd.C_alloc ?_ _) | (with_reducible refine Kd.C_drewN ?_ _) | (with_reducible refine Kd.C_drew ?_)))
                      (case side2 => exact (Kd.R_reads' HO198.out).2.1)
                      (case side3 => repeat (first | exact (Kd.R_reads' HO201.out).2.2 | (with_reducible refine Kd.C_alloc ?_ _) | (with_reducible refine Kd.C_drewN ?_ _) | (with_reducible refine Kd.C_drew ?_)))
                      (case side4 => exact (Kd.R_reads' HO201.out).2.1)
                      rintro e w' ⟨rfl, ⟨nd, rfl⟩⟩
                      refine ⟨_, rfl, ?_⟩
                      refine hK.out _ _ ⟨(blk_cell BK170.out 0).trans rfl, (blk_cell BK170.out 1).trans rfl, (blk_cell BK170.out 2).trans rfl, (blk_cell BK170.out 3).trans rfl⟩ (fun hHeld => ?_)
                      clear hK K
                      refine norm_ (a' := ?_) ?_ ?_
                      rotate_left
                      · show Act.put _ (some 63) _ = _
                        simp only [Act.put, List.setIfInBounds_toArray, List.set_cons_zero, List.set_cons_succ, i64_w, i32_w]
                        rfl
                      refine pure_ (i := 5) (N := some 16) (v := ?_) (a' := ?_) #[true, true, true, true, true, true] rfl rfl (by kernel_rfl) (fun _ _ _ h => h) (Or.inl ⟨by rfl, ?_⟩) ?_ ?_
                      rotate_left
                      · intro w'
                        go_simp
                        with_reducible rfl
                      rotate_left
                      · simp only [Act.put, List.setIfInBounds_toArray, List.set_cons_zero, List.set_cons_succ, i64_w, i32_w]
                        rfl
                      refine done_ (by kernel_rfl) ?_
                      try go_wp2
                      (try (rw [drewN_self w69]; generalize hq_ : World.drewN w69 _ = w69; have n0_ : Aside0 (Kd.R Kd.string 9 w69 w.heap.size (fun k_ => some k_ ≠ (.slice Ao71 t199.length co71 : Value).ownBlock) (.slice Ao70 t196.length co70) t196) := ⟨by rw [← hq_]; exact (by (with_reducible repeat (first | apply Kd.R_alloc | apply Kd.R_drewN | apply Kd.R_drew)); exact Kd.R_mono HO198.out (fun _ hk => hk.2))⟩; have n1_ : Aside0 (Kd.R Kd.string 9 w69 w.heap.size (fun k_ => some k_ ≠ (.slice Ao70 t196.length co70 : Value).ownBlock) (.slice Ao71 t199.length co71) t199) := ⟨by rw [← hq_]; exact (by (with_reducible repeat (first | apply Kd.R_alloc | apply Kd.R_drewN | apply Kd.R_drew)); exact Kd.R_mono HO201.out (fun _ hk => hk.2))⟩; have n2_ : Aside0 (w69.heap[gb169]? = some (.cells #[.string a0_0, .string a0_1, .int .i64 a0_2, .bool a0_3, .string a0_4, .int .i64 a0_5, .int .i64 a0_6] 69 (0, 0))) := ⟨by rw [← hq_]; exact (by (with_reducible repeat (first | refine blk_drewN ?_ _ | refine blk_drew ?_ | refine blk_alloc ?_ _)); exact BK169.out)⟩; have n3_ : Aside0 (w69.heap[gb170]? = some (.cells #[.string a0_0, .string a0_1, .int .i64 a0_2, .bool a0_3] 60 (0, 0))) := ⟨by rw [← hq_]; exact (by (with_reducible repeat (first | refine blk_drewN ?_ _ | refine blk_drew ?_ | refine blk_alloc ?_ _)); exact BK170.out)⟩; have n4_ : Aside0 (w69.heap[gb177]? = some (.cells #[.string t172, .string t173, .int .i64 t174, .bool t175] 60 (0, 0))) := ⟨by rw [← hq_]; exact (by (with_reducible repeat (first | refine blk_drewN ?_ _ | refine blk_drew ?_ | refine blk_alloc ?_ _)); exact BK177.out)⟩; have n5_ : Aside0 (w69.heap[gb183]? = some (.cells #[.string t178, .string t179, .int .i64 t180, .bool t181] 60 (0, 0))) := ⟨by rw [← hq_]; exact (by (with_reducible repeat (first | refine blk_drewN ?_ _ | refine blk_drew ?_ | refine blk_alloc ?_ _)); exact BK183.out)⟩; have n6_ : Aside0 (w69.heap[gb189]? = some (.cells #[.string t184, .string t185, .int .i64 t186, .bool t187] 60 (0, 0))) := ⟨by rw [← hq_]; exact (by (with_reducible repeat (first | refine blk_drewN ?_ _ | refine blk_drew ?_ | refine blk_alloc ?_ _)); exact BK189.out)⟩; have n7_ : Aside0 (w69.heap[gb195]? = some (.cells #[.string t190, .string t191, .int .i64 t192, .bool t193] 60 (0, 0))) := ⟨by rw [← hq_]; exact (by (with_reducible repeat (first | refine blk_drewN ?_ _ | refine blk_drew ?_ | refine blk_alloc ?_ _)); exact BK195.out)⟩; have n8_ : Aside0 (Below w.heap.size w w69) := ⟨by rw [← hq_]; exact (by repeat (first | (with_reducible first | exact HB.out | apply below_alloc | apply pw_below_drewN | apply below_drew1 | refine below_set ?_ GE169.out | refine below_set ?_ GE170.out | refine below_set ?_ GE177.out | refine below_set ?_ GE183.out | refine below_set ?_ GE189.out | refine below_set ?_ GE195.out) | exact HB.out))⟩; clear HO198 HO201 BK169 BK170 BK177 BK183 BK189 BK195 HB hq_; have HO198 := n0_; have HO201 := n1_; have BK169 := n2_; have BK170 := n3_; have BK177 := n4_; have BK183 := n5_; have BK189 := n6_; have BK195 := n7_; have HB := n8_; clear n0_ n1_ n2_ n3_ n4_ n5_ n6_ n7_ n8_))
                      have n0_ := Aside0.mk (Kd.R_drew HO198.out)
                      have n1_ := Aside0.mk (Kd.R_drew HO201.out)
                      have n2_ := Aside0.mk (blk_drew BK169.out)
                      have n3_ := Aside0.mk (blk_drew BK170.out)
                      have n4_ := Aside0.mk (blk_drew BK177.out)
                      have n5_ := Aside0.mk (blk_drew BK183.out)
                      have n6_ := Aside0.mk (blk_drew BK189.out)
                      have n7_ := Aside0.mk (blk_drew BK195.out)
                      have n8_ := Aside0.mk (below_drew1 HB.out)
                      clear HO198
                      clear HO201
                      clear BK169
                      clear BK170
                      clear BK177
                      clear BK183
                      clear BK189
                      clear BK195
                      clear HB
                      have HO198 := n0_
                      have HO201 := n1_
                      have BK169 := n2_
                      have BK170 := n3_
                      have BK177 := n4_
                      have BK183 := n5_
                      have BK189 := n6_
                      have BK195 := n7_
                      have HB := n8_
                      clear n0_ n1_ n2_ n3_ n4_ n5_ n6_ n7_ n8_
                      refine start_ (n := 43) (S := fun w' => w'.cell? ⟨gb177, 0, none⟩ = some (.string t172) ∧ w'.cell? ⟨gb177, 1, none⟩ = some (.string t173) ∧ w'.cell? ⟨gb177, 2, none⟩ = some (.int .i64 t174) ∧ w'.cell? ⟨gb177, 3, none⟩ = some (.bool t175) ∧ w'.cell? ⟨gb183, 0, none⟩ = some (.string t178) ∧ w'.cell? ⟨gb183, 1, none⟩ = some (.string t179) ∧ w'.cell? ⟨gb183, 2, none⟩ = some (.int .i64 t180) ∧ w'.cell? ⟨gb183, 3, none⟩ = some (.bool t181) ∧ w'.cell? ⟨gb189, 0, none⟩ = some (.string t184) ∧ w'.cell? ⟨gb189, 1, none⟩ = some (.string t185) ∧ w'.cell? ⟨gb189, 2, none⟩ = some (.int .i64 t186) ∧ w'.cell? ⟨gb189, 3, none⟩ = some (.bool t187) ∧ w'.cell? ⟨gb195, 0, none⟩ = some (.string t190) ∧ w'.cell? ⟨gb195, 1, none⟩ = some (.string t191) ∧ w'.cell? ⟨gb195, 2, none⟩ = some (.int .i64 t192) ∧ w'.cell? ⟨gb195, 3, none⟩ = some (.bool t193) ∧ w'.cell? ⟨gb170, 0, none⟩ = some (.string a0_0) ∧ w'.cell? ⟨gb170, 1, none⟩ = some (.string a0_1) ∧ w'.cell? ⟨gb170, 2, none⟩ = some (.int .i64 a0_2) ∧ w'.cell? ⟨gb170, 3, none⟩ = some (.bool a0_3)) (ds := []) #[false, false, false, false, false, false, false, false, false, false, false, false, false, false, false, false, false, false, false, false, false, false, false, false, false, false, false, false, false, false, false, false, false, false, false, false, false, false, false, false, false, false, false] (by kernel_rfl) rfl rfl ⟨(blk_cell BK177.out 0).trans rfl, (blk_cell BK177.out 1).trans rfl, (blk_cell BK177.out 2).trans rfl, (blk_cell BK177.out 3).trans rfl, (blk_cell BK183.out 0).trans rfl, (blk_cell BK183.out 1).trans rfl, (blk_cell BK183.out 2).trans rfl, (blk_cell BK183.out 3).trans rfl, (blk_cell BK189.out 0).trans rfl, (blk_cell BK189.out 1).trans rfl, (blk_cell BK189.out 2).trans rfl, (blk_cell BK189.out 3).trans rfl, (blk_cell BK195.out 0).trans rfl, (blk_cell BK195.out 1).trans rfl, (blk_cell BK195.out 2).trans rfl, (blk_cell BK195.out 3).trans rfl, (blk_cell BK170.out 0).trans rfl, (blk_cell BK170.out 1).trans rfl, (blk_cell BK170.out 2).trans rfl, (blk_cell BK170.out 3).trans rfl⟩ (fun hHeld => ?_); refine with_tabW selvedgelaw17_PaperActs.tab13 selvedgelaw17_PaperActs.bits13 (fun HT_ HW_ => ?_)
                      generalize w69.drew = w72 at HO198 HO201 BK169 BK170 BK177 BK183 BK189 BK195 HB hHeld ⊢
                      refine pure_ (i := 0) (N := some 64) (v := ?_) (a' := ?_) #[true, false, false, false, false, false, false, false, false, false, false, false, false, false, false, false, false, false, false, false, false, false, false, false, false, false, false, false, false, false, false, false, false, false, false, false, false, false, false, false, false, false, false] rfl rfl (any_of HT_.out (by kernel_rfl)) (fun _ _ _ h => h) (Or.inl ⟨by rfl, ?_⟩) ?_ ?_
                      rotate_left
                      · intro w'
                        go_simp
                        with_reducible rfl
                      rotate_left
                      · simp only [Act.put, List.setIfInBounds_toArray, List.set_cons_zero, List.set_cons_succ, i64_w, i32_w]
                        rfl
                      refine pure_ (i := 1) (N := some 65) (v := ?_) (a' := ?_) #[true, true, false, false, false, false, false, false, false, false, false, false, false, false, false, false, false, false, false, false, false, false, false, false, false, false, false, false, false, false, false, false, false, false, false, false, false, false, false, false, false, false, false] rfl rfl (any_of HT_.out (by kernel_rfl)) (fun _ _ _ h => h) (Or.inl ⟨by rfl, ?_⟩) ?_ ?_
                      rotate_left
                      · intro w'
                        go_simp
                        with_reducible rfl
                      rotate_left
                      · simp only [Act.put, List.setIfInBounds_toArray, List.set_cons_zero, List.set_cons_succ, i64_w, i32_w]
                        rfl
                      refine pure_ (i := 2) (N := some 66) (v := ?_) (a' := ?_) #[true, true, true, false, false, false, false, false, false, false, false, false, false, false, false, false, false, false, false, false, false, false, false, false, false, false, false, false, false, false, false, false, false, false, false, false, false, false, false, false, false, false, false] rfl rfl (any_of HT_.out (by kernel_rfl)) (fun _ _ _ h => h) (Or.inl ⟨by rfl, ?_⟩) ?_ ?_
                      rotate_left
                      · intro w'
                        go_simp
                        with_reducible rfl
                      rotate_left
                      · simp only [Act.put, List.setIfInBounds_toArray, List.set_cons_zero, List.set_cons_succ, i64_w, i32_w]
                        rfl
                      refine pure_ (i := 3) (N := some 67) (v := ?_) (a' := ?_) #[true, true, true, true, false, false, false, false, false, false, false, false, false, false, false, false, false, false, false, false, false, false, false, false, false, false, false, false, false, false, false, false, false, false, false, false, false, false, false, false, false, false, false] rfl rfl (any_of HT_.out (by kernel_rfl)) (fun _ _ _ h => h) (Or.inl ⟨by rfl, ?_⟩) ?_ ?_
                      rotate_left
                      · intro w'
                        go_simp
                        with_reducible rfl
                      rotate_left
                      · simp only [Act.put, List.setIfInBounds_toArray, List.set_cons_zero, List.set_cons_succ, i64_w, i32_w]
                        rfl
                      refine pure_ (i := 4) (N := some 68) (v := ?_) (a' := ?_) #[true, true, true, true, true, false, false, false, false, false, false, false, false, false, false, false, false, false, false, false, false, false, false, false, false, false, false, false, false, false, false, false, false, false, false, false, false, false, false, false, false, false, false] rfl rfl (any_of HT_.out (by kernel_rfl)) (fun _ _ _ h => h) (Or.inl ⟨by rfl, ?_⟩) ?_ ?_
                      rotate_left
                      · intro w'
                        go_simp
                        with_reducible rfl
                      rotate_left
                      · simp only [Act.put, List.setIfInBounds_toArray, List.set_cons_zero, List.set_cons_succ, i64_w, i32_w]
                        rfl
                      refine take_ (i := 5) (N := some 69) (v := ?_) (a' := ?_) #[true, true, true, true, true, true, false, false, false, false, false, false, false, false, false, false, false, false, false, false, false, false, false, false, false, false, false, false, false, false, false, false, false, false, false, false, false, false, false, false, false, false, false] rfl rfl (take_ofW HT_.out HW_.out (by kernel_rfl)) (fun _ _ _ h => h) (Or.inl ⟨by rfl, ?_⟩) hHeld ?_ ?_
                      rotate_left
                      · rintro w' ⟨s0, s1, s2, s3, s4, s5, s6, s7, s8, s9, s10, s11, s12, s13, s14, s15, s16, s17, s18, s19⟩
                        go_simp
                        with_reducible rfl
                      rotate_left
                      · simp only [Act.put, List.setIfInBounds_toArray, List.set_cons_zero, List.set_cons_succ, i64_w, i32_w]
                        rfl
                      refine take_ (i := 6) (N := some 70) (v := ?_) (a' := ?_) #[true, true, true, true, true, true, true, false, false, false, false, false, false, false, false, false, false, false, false, false, false, false, false, false, false, false, false, false, false, false, false, false, false, false, false, false, false, false, false, false, false, false, false] rfl rfl (take_ofW HT_.out HW_.out (by kernel_rfl)) (fun _ _ _ h => h) (Or.inl ⟨by rfl, ?_⟩) hHeld ?_ ?_
                      rotate_left
                      · rintro w' ⟨s0, s1, s2, s3, s4, s5, s6, s7, s8, s9, s10, s11, s12, s13, s14, s15, s16, s17, s18, s19⟩
                        go_simp
                        with_reducible rfl
                      rotate_left
                      · simp only [Act.put, List.setIfInBounds_toArray, List.set_cons_zero, List.set_cons_succ, i64_w, i32_w]
                        rfl
                      refine pure_ (i := 7) (N := some 71) (v := ?_) (a' := ?_) #[true, true, true, true, true, true, true, true, false, false, false, false, false, false, false, false, false, false, false, false, false, false, false, false, false, false, false, false, false, false, false, false, false, false, false, false, false, false, false, false, false, false, false] rfl rfl (any_of HT_.out (by kernel_rfl)) (fun _ _ _ h => h) (Or.inl ⟨by rfl, ?_⟩) ?_ ?_
                      rotate_left
                      · intro w'
                        go_simp
                        with_reducible rfl
                      rotate_left
                      · simp only [Act.put, List.setIfInBounds_toArray, List.set_cons_zero, List.set_cons_succ, i64_w, i32_w]
                        rfl
                      refine pure_ (i := 8) (N := some 72) (v := ?_) (a' := ?_) #[true, true, true, true, true, true, true, true, true, false, false, false, false, false, false, false, false, false, false, false, false, false, false, false, false, false, false, false, false, false, false, false, false, false, false, false, false, false, false, false, false, false, false] rfl rfl (any_of HT_.out (by kernel_rfl)) (fun _ _ _ h => h) (Or.inl ⟨by rfl, ?_⟩) ?_ ?_
                      rotate_left
                      · intro w'
                        go_simp
                        with_reducible rfl
                      rotate_left
                      · simp only [Act.put, List.setIfInBounds_toArray, List.set_cons_zero, List.set_cons_succ, i64_w, i32_w]
                        rfl
                      refine pure_ (i := 9) (N := some 73) (v := ?_) (a' := ?_) #[true, true, true, true, true, true, true, true, true, true, false, false, false, false, false, false, false, false, false, false, false, false, false, false, false, false, false, false, false, false, false, false, false, false, false, false, false, false, false, false, false, false, false] rfl rfl (any_of HT_.out (by kernel_rfl)) (fun _ _ _ h => h) (Or.inl ⟨by rfl, ?_⟩) ?_ ?_
                      rotate_left
                      · intro w'
                        go_simp
                        with_reducible rfl
                      rotate_left
                      · simp only [Act.put, List.setIfInBounds_toArray, List.set_cons_zero, List.set_cons_succ, i64_w, i32_w]
                        rfl
                      refine pure_ (i := 10) (N := some 74) (v := ?_) (a' := ?_) #[true, true, true, true, true, true, true, true, true, true, true, false, false, false, false, false, false, false, false, false, false, false, false, false, false, false, false, false, false, false, false, false, false, false, false, false, false, false, false, false, false, false, false] rfl rfl (any_of HT_.out (by kernel_rfl)) (fun _ _ _ h => h) (Or.inl ⟨by rfl, ?_⟩) ?_ ?_
                      rotate_left
                      · intro w'
                        go_simp
                        with_reducible rfl
                      rotate_left
                      · simp only [Act.put, List.setIfInBounds_toArray, List.set_cons_zero, List.set_cons_succ, i64_w, i32_w]
                        rfl
                      refine pure_ (i := 11) (N := some 75) (v := ?_) (a' := ?_) #[true, true, true, true, true, true, true, true, true, true, true, true, false, false, false, false, false, false, false, false, false, false, false, false, false, false, false, false, false, false, false, false, false, false, false, false, false, false, false, false, false, false, false] rfl rfl (any_of HT_.out (by kernel_rfl)) (fun _ _ _ h => h) (Or.inl ⟨by rfl, ?_⟩) ?_ ?_
                      rotate_left
                      · intro w'
                        go_simp
                        with_reducible rfl
                      rotate_left
                      · simp only [Act.put, List.setIfInBounds_toArray, List.set_cons_zero, List.set_cons_succ, i64_w, i32_w]
                        rfl
                      refine pure_ (i := 12) (N := some 76) (v := ?_) (a' := ?_) #[true, true, true, true, true, true, true, true, true, true, true, true, true, false, false, false, false, false, false, false, false, false, false, false, false, false, false, false, false, false, false, false, false, false, false, false, false, false, false, false, false, false, false] rfl rfl (any_of HT_.out (by kernel_rfl)) (fun _ _ _ h => h) (Or.inl ⟨by rfl, ?_⟩) ?_ ?_
                      rotate_left
                      · intro w'
                        go_simp
                        with_reducible rfl
                      rotate_left
                      · simp only [Act.put, List.setIfInBounds_toArray, List.set_cons_zero, List.set_cons_succ, i64_w, i32_w]
                        rfl
                      refine pure_ (i := 13) (N := some 77) (v := ?_) (a' := ?_) #[true, true, true, true, true, true, true, true, true, true, true, true, true, true, false, false, false, false, false, false, false, false, false, false, false, false, false, false, false, false, false, false, false, false, false, false, false, false, false, false, false, false, false] rfl rfl (any_of HT_.out (by kernel_rfl)) (fun _ _ _ h => h) (Or.inl ⟨by rfl, ?_⟩) ?_ ?_
                      rotate_left
                      · intro w'
                        go_simp
                        with_reducible rfl
                      rotate_left
                      · simp only [Act.put, List.setIfInBounds_toArray, List.set_cons_zero, List.set_cons_succ, i64_w, i32_w]
                        rfl
                      refine pure_ (i := 14) (N := some 78) (v := ?_) (a' := ?_) #[true, true, true, true, true, true, true, true, true, true, true, true, true, true, true, false, false, false, false, false, false, false, false, false, false, false, false, false, false, false, false, false, false, false, false, false, false, false, false, false, false, false, false] rfl rfl (any_of HT_.out (by kernel_rfl)) (fun _ _ _ h => h) (Or.inl ⟨by rfl, ?_⟩) ?_ ?_
                      rotate_left
                      · intro w'
                        go_simp
                        with_reducible rfl
                      rotate_left
                      · simp only [Act.put, List.setIfInBounds_toArray, List.set_cons_zero, List.set_cons_succ, i64_w, i32_w]
                        rfl
                      refine take_ (i := 15) (N := some 79) (v := ?_) (a' := ?_) #[true, true, true, true, true, true, true, true, true, true, true, true, true, true, true, true, false, false, false, false, false, false, false, false, false, false, false, false, false, false, false, false, false, false, false, false, false, false, false, false, false, false, false] rfl rfl (take_ofW HT_.out HW_.out (by kernel_rfl)) (fun _ _ _ h => h) (Or.inl ⟨by rfl, ?_⟩) hHeld ?_ ?_
                      rotate_left
                      · rintro w' ⟨s0, s1, s2, s3, s4, s5, s6, s7, s8, s9, s10, s11, s12, s13, s14, s15, s16, s17, s18, s19⟩
                        go_simp
                        with_reducible rfl
                      rotate_left
                      · simp only [Act.put, List.setIfInBounds_toArray, List.set_cons_zero, List.set_cons_succ, i64_w, i32_w]
                        rfl
                      refine take_ (i := 16) (N := some 80) (v := ?_) (a' := ?_) #[true, true, true, true, true, true, true, true, true, true, true, true, true, true, true, true, true, false, false, false, false, false, false, false, false, false, false, false, false, false, false, false, false, false, false, false, false, false, false, false, false, false, false] rfl rfl (take_ofW HT_.out HW_.out (by kernel_rfl)) (fun _ _ _ h => h) (Or.inl ⟨by rfl, ?_⟩) hHeld ?_ ?_
                      rotate_left
                      · rintro w' ⟨s0, s1, s2, s3, s4, s5, s6, s7, s8, s9, s10, s11, s12, s13, s14, s15, s16, s17, s18, s19⟩
                        go_simp
                        with_reducible rfl
                      rotate_left
                      · simp only [Act.put, List.setIfInBounds_toArray, List.set_cons_zero, List.set_cons_succ, i64_w, i32_w]
                        rfl
                      refine pure_ (i := 17) (N := some 81) (v := ?_) (a' := ?_) #[true, true, true, true, true, true, true, true, true, true, true, true, true, true, true, true, true, true, false, false, false, false, false, false, false, false, false, false, false, false, false, false, false, false, false, false, false, false, false, false, false, false, false] rfl rfl (any_of HT_.out (by kernel_rfl)) (fun _ _ _ h => h) (Or.inl ⟨by rfl, ?_⟩) ?_ ?_
                      rotate_left
                      · intro w'
                        go_simp
                        with_reducible rfl
                      rotate_left
                      · simp only [Act.put, List.setIfInBounds_toArray, List.set_cons_zero, List.set_cons_succ, i64_w, i32_w]
                        rfl
                      refine pure_ (i := 18) (N := some 82) (v := ?_) (a' := ?_) #[true, true, true, true, true, true, true, true, true, true, true, true, true, true, true, true, true, true, true, false, false, false, false, false, false, false, false, false, false, false, false, false, false, false, false, false, false, false, false, false, false, false, false] rfl rfl (any_of HT_.out (by kernel_rfl)) (fun _ _ _ h => h) (Or.inl ⟨by rfl, ?_⟩) ?_ ?_
                      rotate_left
                      · intro w'
                        go_simp
                        with_reducible rfl
                      rotate_left
                      · simp only [Act.put, List.setIfInBounds_toArray, List.set_cons_zero, List.set_cons_succ, i64_w, i32_w]
                        rfl
                      refine pure_ (i := 19) (N := some 83) (v := ?_) (a' := ?_) #[true, true, true, true, true, true, true, true, true, true, true, true, true, true, true, true, true, true, true, true, false, false, false, false, false, false, false, false, false, false, false, false, false, false, false, false, false, false, false, false, false, false, false] rfl rfl (any_of HT_.out (by kernel_rfl)) (fun _ _ _ h => h) (Or.inl ⟨by rfl, ?_⟩) ?_ ?_
                      rotate_left
                      · intro w'
                        go_simp
                        with_reducible rfl
                      rotate_left
                      · simp only [Act.put, List.setIfInBounds_toArray, List.set_cons_zero, List.set_cons_succ, i64_w, i32_w]
                        rfl
                      refine pure_ (i := 20) (N := some 84) (v := ?_) (a' := ?_) #[true, true, true, true, true, true, true, true, true, true, true, true, true, true, true, true, true, true, true, true, true, false, false, false, false, false, false, false, false, false, false, false, false, false, false, false, false, false, false, false, false, false, false] rfl rfl (any_of HT_.out (by kernel_rfl)) (fun _ _ _ h => h) (Or.inl ⟨by rfl, ?_⟩) ?_ ?_
                      rotate_left
                      · intro w'
                        go_simp
                        with_reducible rfl
                      rotate_left
                      · simp only [Act.put, List.setIfInBounds_toArray, List.set_cons_zero, List.set_cons_succ, i64_w, i32_w]
                        rfl
                      refine pure_ (i := 21) (N := some 85) (v := ?_) (a' := ?_) #[true, true, true, true, true, true, true, true, true, true, true, true, true, true, true, true, true, true, true, true, true, true, false, false, false, false, false, false, false, false, false, false, false, false, false, false, false, false, false, false, false, false, false] rfl rfl (any_of HT_.out (by kernel_rfl)) (fun _ _ _ h => h) (Or.inl ⟨by rfl, ?_⟩) ?_ ?_
                      rotate_left
                      · intro w'
                        go_simp
                        with_reducible rfl
                      rotate_left
                      · simp only [Act.put, List.setIfInBounds_toArray, List.set_cons_zero, List.set_cons_succ, i64_w, i32_w]
                        rfl
                      refine pure_ (i := 22) (N := some 86) (v := ?_) (a' := ?_) #[true, true, true, true, true, true, true, true, true, true, true, true, true, true, true, true, true, true, true, true, true, true, true, false, false, false, false, false, false, false, false, false, false, false, false, false, false, false, false, false, false, false, false] rfl rfl (any_of HT_.out (by kernel_rfl)) (fun _ _ _ h => h) (Or.inl ⟨by rfl, ?_⟩) ?_ ?_
                      rotate_left
                      · intro w'
                        go_simp
                        with_reducible rfl
                      rotate_left
                      · simp only [Act.put, List.setIfInBounds_toArray, List.set_cons_zero, List.set_cons_succ, i64_w, i32_w]
                        rfl
                      refine pure_ (i := 23) (N := some 87) (v := ?_) (a' := ?_) #[true, true, true, true, true, true, true, true, true, true, true, true, true, true, true, true, true, true, true, true, true, true, true, true, false, false, false, false, false, false, false, false, false, false, false, false, false, false, false, false, false, false, false] rfl rfl (any_of HT_.out (by kernel_rfl)) (fun _ _ _ h => h) (Or.inl ⟨by rfl, ?_⟩) ?_ ?_
                      rotate_left
                      · intro w'
                        go_simp
                        with_reducible rfl
                      rotate_left
                      · simp only [Act.put, List.setIfInBounds_toArray, List.set_cons_zero, List.set_cons_succ, i64_w, i32_w]
                        rfl
                      refine pure_ (i := 24) (N := some 88) (v := ?_) (a' := ?_) #[true, true, true, true, true, true, true, true, true, true, true, true, true, true, true, true, true, true, true, true, true, true, true, true, true, false, false, false, false, false, false, false, false, false, false, false, false, false, false, false, false, false, false] rfl rfl (any_of HT_.out (by kernel_rfl)) (fun _ _ _ h => h) (Or.inl ⟨by rfl, ?_⟩) ?_ ?_
                      rotate_left
                      · intro w'
                        go_simp
                        with_reducible rfl
                      rotate_left
                      · simp only [Act.put, List.setIfInBounds_toArray, List.set_cons_zero, List.set_cons_succ, i64_w, i32_w]
                        rfl
                      refine pure_ (i := 26) (N := some 90) (v := ?_) (a' := ?_) #[true, true, true, true, true, true, true, true, true, true, true, true, true, true, true, true, true, true, true, true, true, true, true, true, true, false, true, false, false, false, false, false, false, false, false, false, false, false, false, false, false, false, false] rfl rfl (any_of HT_.out (by kernel_rfl)) (fun _ _ _ h => h) (Or.inl ⟨by rfl, ?_⟩) ?_ ?_
                      rotate_left
                      · intro w'
                        go_simp
                        with_reducible rfl
                      rotate_left
                      · simp only [Act.put, List.setIfInBounds_toArray, List.set_cons_zero, List.set_cons_succ, i64_w, i32_w]
                        rfl
                      refine pure_ (i := 29) (N := some 93) (v := ?_) (a' := ?_) #[true, true, true, true, true, true, true, true, true, true, true, true, true, true, true, true, true, true, true, true, true, true, true, true, true, false, true, false, false, true, false, false, false, false, false, false, false, false, false, false, false, false, false] rfl rfl (any_of HT_.out (by kernel_rfl)) (fun _ _ _ h => h) (Or.inl ⟨by rfl, ?_⟩) ?_ ?_
                      rotate_left
                      · intro w'
                        go_simp
                        with_reducible rfl
                      rotate_left
                      · simp only [Act.put, List.setIfInBounds_toArray, List.set_cons_zero, List.set_cons_succ, i64_w, i32_w]
                        rfl
                      refine take_ (i := 25) (N := some 89) (v := ?_) (a' := ?_) #[true, true, true, true, true, true, true, true, true, true, true, true, true, true, true, true, true, true, true, true, true, true, true, true, true, true, true, false, false, true, false, false, false, false, false, false, false, false, false, false, false, false, false] rfl rfl (take_ofW HT_.out HW_.out (by kernel_rfl)) (fun _ _ _ h => h) (Or.inl ⟨by rfl, ?_⟩) hHeld ?_ ?_
                      rotate_left
                      · rintro w' ⟨s0, s1, s2, s3, s4, s5, s6, s7, s8, s9, s10, s11, s12, s13, s14, s15, s16, s17, s18, s19⟩
                        go_simp
                        with_reducible rfl
                      rotate_left
                      · simp only [Act.put, List.setIfInBounds_toArray, List.set_cons_zero, List.set_cons_succ, i64_w, i32_w]
                        rfl
                      refine take_ (i := 28) (N := some 92) (v := ?_) (a' := ?_) #[true, true, true, true, true, true, true, true, true, true, true, true, true, true, true, true, true, true, true, true, true, true, true, true, true, true, true, false, true, true, false, false, false, false, false, false, false, false, false, false, false, false, false] rfl rfl (take_ofW HT_.out HW_.out (by kernel_rfl)) (fun _ _ _ h => h) (Or.inl ⟨by rfl, ?_⟩) hHeld ?_ ?_
                      rotate_left
                      · rintro w' ⟨s0, s1, s2, s3, s4, s5, s6, s7, s8, s9, s10, s11, s12, s13, s14, s15, s16, s17, s18, s19⟩
                        go_simp
                        with_reducible rfl
                      rotate_left
                      · simp only [Act.put, List.setIfInBounds_toArray, List.set_cons_zero, List.set_cons_succ, i64_w, i32_w]
                        rfl
                      refine one_ (i := 27) (N := some 91) #[true, true, true, true, true, true, true, true, true, true, true, true, true, true, true, true, true, true, true, true, true, true, true, true, true, true, true, true, true, true, false, false, false, false, false, false, false, false, false, false, false, false, false] rfl rfl (one_of HT_.out (by kernel_rfl)) (by decide) (fun K hK => ?_)
                      refine goes_ Try.func39 (by kernel_rfl) rfl #[.agg #[.string a0_0, .string a0_1, .int .i64 a0_2, .bool a0_3], .int .i64 a0_5] (by rfl) rfl rfl (by (try simp only [List.map_toArray, List.map_cons, List.map_nil]); first | done | rfl | (simp only [List.length_drop, List.length_take]; rfl)) ?_
                      with_reducible refine (paper_Crash.calls kj2 a0_0 a0_1 a0_2 a0_3 a0_5 t203 t204 t205 t206 _ A30.out).mono ?_
                      rintro e w73 ⟨rfl, hb⟩
                      refine ⟨_, rfl, ?_⟩
                      have n0_ := Aside0.mk (Kd.R_below (by (with_reducible repeat (first | apply Kd.R_alloc | apply Kd.R_drewN | apply Kd.R_drew)); exact HO198.out) hb)
                      have n1_ := Aside0.mk (Kd.R_below (by (with_reducible repeat (first | apply Kd.R_alloc | apply Kd.R_drewN | apply Kd.R_drew)); exact HO201.out) hb)
                      have n2_ := Aside0.mk (blk_below (g := gb169) (o := .cells #[.string a0_0, .string a0_1, .int .i64 a0_2, .bool a0_3, .string a0_4, .int .i64 a0_5, .int .i64 a0_6] 69 (0, 0)) (by (with_reducible repeat (first | refine blk_drewN ?_ _ | refine blk_drew ?_ | refine blk_alloc ?_ _)); exact BK169.out) hb)
                      have n3_ := Aside0.mk (blk_below (g := gb170) (o := .cells #[.string a0_0, .string a0_1, .int .i64 a0_2, .bool a0_3] 60 (0, 0)) (by (with_reducible repeat (first | refine blk_drewN ?_ _ | refine blk_drew ?_ | refine blk_alloc ?_ _)); exact BK170.out) hb)
                      have n4_ := Aside0.mk (blk_below (g := gb177) (o := .cells #[.string t172, .string t173, .int .i64 t174, .bool t175] 60 (0, 0)) (by (with_reducible repeat (first | refine blk_drewN ?_ _ | refine blk_drew ?_ | refine blk_alloc ?_ _)); exact BK177.out) hb)
                      have n5_ := Aside0.mk (blk_below (g := gb183) (o := .cells #[.string t178, .string t179, .int .i64 t180, .bool t181] 60 (0, 0)) (by (with_reducible repeat (first | refine blk_drewN ?_ _ | refine blk_drew ?_ | refine blk_alloc ?_ _)); exact BK183.out) hb)
                      have n6_ := Aside0.mk (blk_below (g := gb189) (o := .cells #[.string t184, .string t185, .int .i64 t186, .bool t187] 60 (0, 0)) (by (with_reducible repeat (first | refine blk_drewN ?_ _ | refine blk_drew ?_ | refine blk_alloc ?_ _)); exact BK189.out) hb)
                      have n7_ := Aside0.mk (blk_below (g := gb195) (o := .cells #[.string t190, .string t191, .int .i64 t192, .bool t193] 60 (0, 0)) (by (with_reducible repeat (first | refine blk_drewN ?_ _ | refine blk_drew ?_ | refine blk_alloc ?_ _)); exact BK195.out) hb)
                      have n8_ := Aside0.mk (below_step (by repeat (first | (with_reducible first | exact HB.out | apply below_alloc | apply pw_below_drewN | apply below_drew1 | refine below_set ?_ GE169.out | refine below_set ?_ GE170.out | refine below_set ?_ GE177.out | refine below_set ?_ GE183.out | refine below_set ?_ GE189.out | refine below_set ?_ GE195.out) | exact HB.out)) hb)
                      clear HO198
                      clear HO201
                      clear BK169
                      clear BK170
                      clear BK177
                      clear BK183
                      clear BK189
                      clear BK195
                      clear HB
                      have HO198 := n0_
                      have HO201 := n1_
                      have BK169 := n2_
                      have BK170 := n3_
                      have BK177 := n4_
                      have BK183 := n5_
                      have BK189 := n6_
                      have BK195 := n7_
                      have HB := n8_
                      clear n0_ n1_ n2_ n3_ n4_ n5_ n6_ n7_ n8_
                      (try clear hb)
                      (try clear hb2)
                      (try clear hk)
                      (try clear hi)
                      refine hK.out _ _ ⟨(blk_cell BK177.out 0).trans rfl, (blk_cell BK177.out 1).trans rfl, (blk_cell BK177.out 2).trans rfl, (blk_cell BK177.out 3).trans rfl, (blk_cell BK183.out 0).trans rfl, (blk_cell BK183.out 1).trans rfl, (blk_cell BK183.out 2).trans rfl, (blk_cell BK183.out 3).trans rfl, (blk_cell BK189.out 0).trans rfl, (blk_cell BK189.out 1).trans rfl, (blk_cell BK189.out 2).trans rfl, (blk_cell BK189.out 3).trans rfl, (blk_cell BK195.out 0).trans rfl, (blk_cell BK195.out 1).trans rfl, (blk_cell BK195.out 2).trans rfl, (blk_cell BK195.out 3).trans rfl, (blk_cell BK170.out 0).trans rfl, (blk_cell BK170.out 1).trans rfl, (blk_cell BK170.out 2).trans rfl, (blk_cell BK170.out 3).trans rfl⟩ (fun hHeld => ?_)
                      clear hK K
                      refine norm_ (a' := ?_) ?_ ?_
                      rotate_left
                      · show Act.put _ (some 91) _ = _
                        simp only [Act.put, List.setIfInBounds_toArray, List.set_cons_zero, List.set_cons_succ, i64_w, i32_w]
                        rfl
                      refine one_ (i := 30) (N := some 94) #[true, true, true, true, true, true, true, true, true, true, true, true, true, true, true, true, true, true, true, true, true, true, true, true, true, true, true, true, true, true, true, false, false, false, false, false, false, false, false, false, false, false, false] rfl rfl (one_of HT_.out (by kernel_rfl)) (by decide) (fun K hK => ?_)
                      refine goes_ Try.func44 (by kernel_rfl) rfl #[.agg #[.string a0_0, .string a0_1, .int .i64 a0_2, .bool a0_3], .int .i64 a0_5] (by rfl) rfl rfl (by (try simp only [List.map_toArray, List.map_cons, List.map_nil]); first | done | rfl | (simp only [List.length_drop, List.length_take]; rfl)) ?_
                      with_reducible refine (selvedgeref17_Crash.calls kj2 a0_0 a0_1 a0_2 a0_3 a0_5 t207 t208 t209 t210 _ A31.out).mono ?_
                      rintro e w74 ⟨rfl, hb⟩
                      refine ⟨_, rfl, ?_⟩
                      have n0_ := Aside0.mk (Kd.R_below (by (with_reducible repeat (first | apply Kd.R_alloc | apply Kd.R_drewN | apply Kd.R_drew)); exact HO198.out) hb)
                      have n1_ := Aside0.mk (Kd.R_below (by (with_reducible repeat (first | apply Kd.R_alloc | apply Kd.R_drewN | apply Kd.R_drew)); exact HO201.out) hb)
                      have n2_ := Aside0.mk (blk_below (g := gb169) (o := .cells #[.string a0_0, .string a0_1, .int .i64 a0_2, .bool a0_3, .string a0_4, .int .i64 a0_5, .int .i64 a0_6] 69 (0, 0)) (by (with_reducible repeat (first | refine blk_drewN ?_ _ | refine blk_drew ?_ | refine blk_alloc ?_ _)); exact BK169.out) hb)
                      have n3_ := Aside0.mk (blk_below (g := gb170) (o := .cells #[.string a0_0, .string a0_1, .int .i64 a0_2, .bool a0_3] 60 (0, 0)) (by (with_reducible repeat (first | refine blk_drewN ?_ _ | refine blk_drew ?_ | refine blk_alloc ?_ _)); exact BK170.out) hb)
                      have n4_ := Aside0.mk (blk_below (g := gb177) (o := .cells #[.string t172, .string t173, .int .i64 t174, .bool t175] 60 (0, 0)) (by (with_reducible repeat (first | refine blk_drewN ?_ _ | refine blk_drew ?_ | refine blk_alloc ?_ _)); exact BK177.out) hb)
                      have n5_ := Aside0.mk (blk_below (g := gb183) (o := .cells #[.string t178, .string t179, .int .i64 t180, .bool t181] 60 (0, 0)) (by (with_reducible repeat (first | refine blk_drewN ?_ _ | refine blk_drew ?_ | refine blk_alloc ?_ _)); exact BK183.out) hb)
                      have n6_ := Aside0.mk (blk_below (g := gb189) (o := .cells #[.string t184, .string t185, .int .i64 t186, .bool t187] 60 (0, 0)) (by (with_reducible repeat (first | refine blk_drewN ?_ _ | refine blk_drew ?_ | refine blk_alloc ?_ _)); exact BK189.out) hb)
                      have n7_ := Aside0.mk (blk_below (g := gb195) (o := .cells #[.string t190, .string t191, .int .i64 t192, .bool t193] 60 (0, 0)) (by (with_reducible repeat (first | refine blk_drewN ?_ _ | refine blk_drew ?_ | refine blk_alloc ?_ _)); exact BK195.out) hb)
                      have n8_ := Aside0.mk (below_step (by repeat (first | (with_reducible first | exact HB.out | apply below_alloc | apply pw_below_drewN | apply below_drew1 | refine below_set ?_ GE169.out | refine below_set ?_ GE170.out | refine below_set ?_ GE177.out | refine below_set ?_ GE183.out | refine below_set ?_ GE189.out | refine below_set ?_ GE195.out) | exact HB.out)) hb)
                      clear HO198
                      clear HO201
                      clear BK169
                      clear BK170
                      clear BK177
                      clear BK183
                      clear BK189
                      clear BK195
                      clear HB
                      have HO198 := n0_
                      have HO201 := n1_
                      have BK169 := n2_
                      have BK170 := n3_
                      have BK177 := n4_
                      have BK183 := n5_
                      have BK189 := n6_
                      have BK195 := n7_
                      have HB := n8_
                      clear n0_ n1_ n2_ n3_ n4_ n5_ n6_ n7_ n8_
                      (try clear hb)
                      (try clear hb2)
                      (try clear hk)
                      (try clear hi)
                      refine hK.out _ _ ⟨(blk_cell BK177.out 0).trans rfl, (blk_cell BK177.out 1).trans rfl, (blk_cell BK177.out 2).trans rfl, (blk_cell BK177.out 3).trans rfl, (blk_cell BK183.out 0).trans rfl, (blk_cell BK183.out 1).trans rfl, (blk_cell BK183.out 2).trans rfl, (blk_cell BK183.out 3).trans rfl, (blk_cell BK189.out 0).trans rfl, (blk_cell BK189.out 1).trans rfl, (blk_cell BK189.out 2).trans rfl, (blk_cell BK189.out 3).trans rfl, (blk_cell BK195.out 0).trans rfl, (blk_cell BK195.out 1).trans rfl, (blk_cell BK195.out 2).trans rfl, (blk_cell BK195.out 3).trans rfl, (blk_cell BK170.out 0).trans rfl, (blk_cell BK170.out 1).trans rfl, (blk_cell BK170.out 2).trans rfl, (blk_cell BK170.out 3).trans rfl⟩ (fun hHeld => ?_)
                      clear hK K
                      refine norm_ (a' := ?_) ?_ ?_
                      rotate_left
                      · show Act.put _ (some 94) _ = _
                        simp only [Act.put, List.setIfInBounds_toArray, List.set_cons_zero, List.set_cons_succ, i64_w, i32_w]
                        rfl
                      refine pure_ (i := 31) (N := some 95) (v := ?_) (a' := ?_) #[true, true, true, true, true, true, true, true, true, true, true, true, true, true, true, true, true, true, true, true, true, true, true, true, true, true, true, true, true, true, true, true, false, false, false, false, false, false, false, false, false, false, false] rfl rfl (any_of HT_.out (by kernel_rfl)) (fun _ _ _ h => h) (Or.inl ⟨by rfl, ?_⟩) ?_ ?_
                      rotate_left
                      · intro w'
                        go_simp
                        with_reducible rfl
                      rotate_left
                      · simp only [Act.put, List.setIfInBounds_toArray, List.set_cons_zero, List.set_cons_succ, i64_w, i32_w]
                        rfl
                      refine pure_ (i := 32) (N := some 96) (v := ?_) (a' := ?_) #[true, true, true, true, true, true, true, true, true, true, true, true, true, true, true, true, true, true, true, true, true, true, true, true, true, true, true, true, true, true, true, true, true, false, false, false, false, false, false, false, false, false, false] rfl rfl (any_of HT_.out (by kernel_rfl)) (fun _ _ _ h => h) (Or.inl ⟨by rfl, ?_⟩) ?_ ?_
                      rotate_left
                      · intro w'
                        go_simp
                        with_reducible rfl
                      rotate_left
                      · simp only [Act.put, List.setIfInBounds_toArray, List.set_cons_zero, List.set_cons_succ, i64_w, i32_w]
                        rfl
                      refine pure_ (i := 33) (N := some 97) (v := ?_) (a' := ?_) #[true, true, true, true, true, true, true, true, true, true, true, true, true, true, true, true, true, true, true, true, true, true, true, true, true, true, true, true, true, true, true, true, true, true, false, false, false, false, false, false, false, false, false] rfl rfl (any_of HT_.out (by kernel_rfl)) (fun _ _ _ h => h) (Or.inl ⟨by rfl, ?_⟩) ?_ ?_
                      rotate_left
                      · intro w'
                        go_simp
                        with_reducible rfl
                      rotate_left
                      · simp only [Act.put, List.setIfInBounds_toArray, List.set_cons_zero, List.set_cons_succ, i64_w, i32_w]
                        rfl
                      refine pure_ (i := 35) (N := some 99) (v := ?_) (a' := ?_) #[true, true, true, true, true, true, true, true, true, true, true, true, true, true, true, true, true, true, true, true, true, true, true, true, true, true, true, true, true, true, true, true, true, true, false, true, false, false, false, false, false, false, false] rfl rfl (any_of HT_.out (by kernel_rfl)) (fun _ _ _ h => h) (Or.inl ⟨by rfl, ?_⟩) ?_ ?_
                      rotate_left
                      · intro w'
                        go_simp
                        with_reducible rfl
                      rotate_left
                      · simp only [Act.put, List.setIfInBounds_toArray, List.set_cons_zero, List.set_cons_succ, i64_w, i32_w]
                        rfl
                      refine pure_ (i := 38) (N := some 102) (v := ?_) (a' := ?_) #[true, true, true, true, true, true, true, true, true, true, true, true, true, true, true, true, true, true, true, true, true, true, true, true, true, true, true, true, true, true, true, true, true, true, false, true, false, false, true, false, false, false, false] rfl rfl (any_of HT_.out (by kernel_rfl)) (fun _ _ _ h => h) (Or.inl ⟨by rfl, ?_⟩) ?_ ?_
                      rotate_left
                      · intro w'
                        go_simp
                        with_reducible rfl
                      rotate_left
                      · simp only [Act.put, List.setIfInBounds_toArray, List.set_cons_zero, List.set_cons_succ, i64_w, i32_w]
                        rfl
                      refine take_ (i := 34) (N := some 98) (v := ?_) (a' := ?_) #[true, true, true, true, true, true, true, true, true, true, true, true, true, true, true, true, true, true, true, true, true, true, true, true, true, true, true, true, true, true, true, true, true, true, true, true, false, false, true, false, false, false, false] rfl rfl (take_ofW HT_.out HW_.out (by kernel_rfl)) (fun _ _ _ h => h) (Or.inl ⟨by rfl, ?_⟩) hHeld ?_ ?_
                      rotate_left
                      · rintro w' ⟨s0, s1, s2, s3, s4, s5, s6, s7, s8, s9, s10, s11, s12, s13, s14, s15, s16, s17, s18, s19⟩
                        go_simp
                        with_reducible rfl
                      rotate_left
                      · simp only [Act.put, List.setIfInBounds_toArray, List.set_cons_zero, List.set_cons_succ, i64_w, i32_w]
                        rfl
                      refine take_ (i := 37) (N := some 101) (v := ?_) (a' := ?_) #[true, true, true, true, true, true, true, true, true, true, true, true, true, true, true, true, true, true, true, true, true, true, true, true, true, true, true, true, true, true, true, true, true, true, true, true, false, true, true, false, false, false, false] rfl rfl (take_ofW HT_.out HW_.out (by kernel_rfl)) (fun _ _ _ h => h) (Or.inl ⟨by rfl, ?_⟩) hHeld ?_ ?_
                      rotate_left
                      · rintro w' ⟨s0, s1, s2, s3, s4, s5, s6, s7, s8, s9, s10, s11, s12, s13, s14, s15, s16, s17, s18, s19⟩
                        go_simp
                        with_reducible rfl
                      rotate_left
                      · simp only [Act.put, List.setIfInBounds_toArray, List.set_cons_zero, List.set_cons_succ, i64_w, i32_w]
                        rfl
                      refine one_ (i := 36) (N := some 100) #[true, true, true, true, true, true, true, true, true, true, true, true, true, true, true, true, true, true, true, true, true, true, true, true, true, true, true, true, true, true, true, true, true, true, true, true, true, true, true, false, false, false, false] rfl rfl (one_of HT_.out (by kernel_rfl)) (by decide) (fun K hK => ?_)
                      refine goes_ Try.func45 (by kernel_rfl) rfl #[.agg #[.string a0_0, .string a0_1, .int .i64 a0_2, .bool a0_3], .int .i64 a0_6] (by rfl) rfl rfl (by (try simp only [List.map_toArray, List.map_cons, List.map_nil]); first | done | rfl | (simp only [List.length_drop, List.length_take]; rfl)) ?_
                      with_reducible refine (paper_Arm.calls a0_0 a0_1 a0_2 a0_3 a0_6 t211 t212 t213 t214 _ A33.out).mono ?_
                      rintro e w75 ⟨rfl, hb⟩
                      refine ⟨_, rfl, ?_⟩
                      have n0_ := Aside0.mk (Kd.R_below (by (with_reducible repeat (first | apply Kd.R_alloc | apply Kd.R_drewN | apply Kd.R_drew)); exact HO198.out) hb)
                      have n1_ := Aside0.mk (Kd.R_below (by (with_reducible repeat (first | apply Kd.R_alloc | apply Kd.R_drewN | apply Kd.R_drew)); exact HO201.out) hb)
                      have n2_ := Aside0.mk (blk_below (g := gb169) (o := .cells #[.string a0_0, .string a0_1, .int .i64 a0_2, .bool a0_3, .string a0_4, .int .i64 a0_5, .int .i64 a0_6] 69 (0, 0)) (by (with_reducible repeat (first | refine blk_drewN ?_ _ | refine blk_drew ?_ | refine blk_alloc ?_ _)); exact BK169.out) hb)
                      have n3_ := Aside0.mk (blk_below (g := gb170) (o := .cells #[.string a0_0, .string a0_1, .int .i64 a0_2, .bool a0_3] 60 (0, 0)) (by (with_reducible repeat (first | refine blk_drewN ?_ _ | refine blk_drew ?_ | refine blk_alloc ?_ _)); exact BK170.out) hb)
                      have n4_ := Aside0.mk (blk_below (g := gb177) (o := .cells #[.string t172, .string t173, .int .i64 t174, .bool t175] 60 (0, 0)) (by (with_reducible repeat (first | refine blk_drewN ?_ _ | refine blk_drew ?_ | refine blk_alloc ?_ _)); exact BK177.out) hb)
                      have n5_ := Aside0.mk (blk_below (g := gb183) (o := .cells #[.string t178, .string t179, .int .i64 t180, .bool t181] 60 (0, 0)) (by (with_reducible repeat (first | refine blk_drewN ?_ _ | refine blk_drew ?_ | refine blk_alloc ?_ _)); exact BK183.out) hb)
                      have n6_ := Aside0.mk (blk_below (g := gb189) (o := .cells #[.string t184, .string t185, .int .i64 t186, .bool t187] 60 (0, 0)) (by (with_reducible repeat (first | refine blk_drewN ?_ _ | refine blk_drew ?_ | refine blk_alloc ?_ _)); exact BK189.out) hb)
                      have n7_ := Aside0.mk (blk_below (g := gb195) (o := .cells #[.string t190, .string t191, .int .i64 t192, .bool t193] 60 (0, 0)) (by (with_reducible repeat (first | refine blk_drewN ?_ _ | refine blk_drew ?_ | refine blk_alloc ?_ _)); exact BK195.out) hb)
                      have n8_ := Aside0.mk (below_step (by repeat (first | (with_reducible first | exact HB.out | apply below_alloc | apply pw_below_drewN | apply below_drew1 | refine below_set ?_ GE169.out | refine below_set ?_ GE170.out | refine below_set ?_ GE177.out | refine below_set ?_ GE183.out | refine below_set ?_ GE189.out | refine below_set ?_ GE195.out) | exact HB.out)) hb)
                      clear HO198
                      clear HO201
                      clear BK169
                      clear BK170
                      clear BK177
                      clear BK183
                      clear BK189
                      clear BK195
                      clear HB
                      have HO198 := n0_
                      have HO201 := n1_
                      have BK169 := n2_
                      have BK170 := n3_
                      have BK177 := n4_
                      have BK183 := n5_
                      have BK189 := n6_
                      have BK195 := n7_
                      have HB := n8_
                      clear n0_ n1_ n2_ n3_ n4_ n5_ n6_ n7_ n8_
                      (try clear hb)
                      (try clear hb2)
                      (try clear hk)
                      (try clear hi)
                      refine hK.out _ _ ⟨(blk_cell BK177.out 0).trans rfl, (blk_cell BK177.out 1).trans rfl, (blk_cell BK177.out 2).trans rfl, (blk_cell BK177.out 3).trans rfl, (blk_cell BK183.out 0).trans rfl, (blk_cell BK183.out 1).trans rfl, (blk_cell BK183.out 2).trans rfl, (blk_cell BK183.out 3).trans rfl, (blk_cell BK189.out 0).trans rfl, (blk_cell BK189.out 1).trans rfl, (blk_cell BK189.out 2).trans rfl, (blk_cell BK189.out 3).trans rfl, (blk_cell BK195.out 0).trans rfl, (blk_cell BK195.out 1).trans rfl, (blk_cell BK195.out 2).trans rfl, (blk_cell BK195.out 3).trans rfl, (blk_cell BK170.out 0).trans rfl, (blk_cell BK170.out 1).trans rfl, (blk_cell BK170.out 2).trans rfl, (blk_cell BK170.out 3).trans rfl⟩ (fun hHeld => ?_)
                      clear hK K
                      refine norm_ (a' := ?_) ?_ ?_
                      rotate_left
                      · show Act.put _ (some 100) _ = _
                        simp only [Act.put, List.setIfInBounds_toArray, List.set_cons_zero, List.set_cons_succ, i64_w, i32_w]
                        rfl
                      refine one_ (i := 39) (N := some 103) #[true, true, true, true, true, true, true, true, true, true, true, true, true, true, true, true, true, true, true, true, true, true, true, true, true, true, true, true, true, true, true, true, true, true, true, true, true, true, true, true, false, false, false] rfl rfl (one_of HT_.out (by kernel_rfl)) (by decide) (fun K hK => ?_)
                      refine goes_ Try.func46 (by kernel_rfl) rfl #[.agg #[.string a0_0, .string a0_1, .int .i64 a0_2, .bool a0_3], .int .i64 a0_6] (by rfl) rfl rfl (by (try simp only [List.map_toArray, List.map_cons, List.map_nil]); first | done | rfl | (simp only [List.length_drop, List.length_take]; rfl)) ?_
                      with_reducible refine (selvedgeref17_Arm.calls a0_0 a0_1 a0_2 a0_3 a0_6 t215 t216 t217 t218 _ A34.out).mono ?_
                      rintro e w76 ⟨rfl, hb⟩
                      refine ⟨_, rfl, ?_⟩
                      have n0_ := Aside0.mk (Kd.R_below (by (with_reducible repeat (first | apply Kd.R_alloc | apply Kd.R_drewN | apply Kd.R_drew)); exact HO198.out) hb)
                      have n1_ := Aside0.mk (Kd.R_below (by (with_reducible repeat (first | apply Kd.R_alloc | apply Kd.R_drewN | apply Kd.R_drew)); exact HO201.out) hb)
                      have n2_ := Aside0.mk (blk_below (g := gb169) (o := .cells #[.string a0_0, .string a0_1, .int .i64 a0_2, .bool a0_3, .string a0_4, .int .i64 a0_5, .int .i64 a0_6] 69 (0, 0)) (by (with_reducible repeat (first | refine blk_drewN ?_ _ | refine blk_drew ?_ | refine blk_alloc ?_ _)); exact BK169.out) hb)
                      have n3_ := Aside0.mk (blk_below (g := gb170) (o := .cells #[.string a0_0, .string a0_1, .int .i64 a0_2, .bool a0_3] 60 (0, 0)) (by (with_reducible repeat (first | refine blk_drewN ?_ _ | refine blk_drew ?_ | refine blk_alloc ?_ _)); exact BK170.out) hb)
                      have n4_ := Aside0.mk (blk_below (g := gb177) (o := .cells #[.string t172, .string t173, .int .i64 t174, .bool t175] 60 (0, 0)) (by (with_reducible repeat (first | refine blk_drewN ?_ _ | refine blk_drew ?_ | refine blk_alloc ?_ _)); exact BK177.out) hb)
                      have n5_ := Aside0.mk (blk_below (g := gb183) (o := .cells #[.string t178, .string t179, .int .i64 t180, .bool t181] 60 (0, 0)) (by (with_reducible repeat (first | refine blk_drewN ?_ _ | refine blk_drew ?_ | refine blk_alloc ?_ _)); exact BK183.out) hb)
                      have n6_ := Aside0.mk (blk_below (g := gb189) (o := .cells #[.string t184, .string t185, .int .i64 t186, .bool t187] 60 (0, 0)) (by (with_reducible repeat (first | refine blk_drewN ?_ _ | refine blk_drew ?_ | refine blk_alloc ?_ _)); exact BK189.out) hb)
                      have n7_ := Aside0.mk (blk_below (g := gb195) (o := .cells #[.string t190, .string t191, .int .i64 t192, .bool t193] 60 (0, 0)) (by (with_reducible repeat (first | refine blk_drewN ?_ _ | refine blk_drew ?_ | refine blk_alloc ?_ _)); exact BK195.out) hb)
                      have n8_ := Aside0.mk (below_step (by repeat (first | (with_reducible first | exact HB.out | apply below_alloc | apply pw_below_drewN | apply below_drew1 | refine below_set ?_ GE169.out | refine below_set ?_ GE170.out | refine below_set ?_ GE177.out | refine below_set ?_ GE183.out | refine below_set ?_ GE189.out | refine below_set ?_ GE195.out) | exact HB.out)) hb)
                      clear HO198
                      clear HO201
                      clear BK169
                      clear BK170
                      clear BK177
                      clear BK183
                      clear BK189
                      clear BK195
                      clear HB
                      have HO198 := n0_
                      have HO201 := n1_
                      have BK169 := n2_
                      have BK170 := n3_
                      have BK177 := n4_
                      have BK183 := n5_
                      have BK189 := n6_
                      have BK195 := n7_
                      have HB := n8_
                      clear n0_ n1_ n2_ n3_ n4_ n5_ n6_ n7_ n8_
                      (try clear hb)
                      (try clear hb2)
                      (try clear hk)
                      (try clear hi)
                      refine hK.out _ _ ⟨(blk_cell BK177.out 0).trans rfl, (blk_cell BK177.out 1).trans rfl, (blk_cell BK177.out 2).trans rfl, (blk_cell BK177.out 3).trans rfl, (blk_cell BK183.out 0).trans rfl, (blk_cell BK183.out 1).trans rfl, (blk_cell BK183.out 2).trans rfl, (blk_cell BK183.out 3).trans rfl, (blk_cell BK189.out 0).trans rfl, (blk_cell BK189.out 1).trans rfl, (blk_cell BK189.out 2).trans rfl, (blk_cell BK189.out 3).trans rfl, (blk_cell BK195.out 0).trans rfl, (blk_cell BK195.out 1).trans rfl, (blk_cell BK195.out 2).trans rfl, (blk_cell BK195.out 3).trans rfl, (blk_cell BK170.out 0).trans rfl, (blk_cell BK170.out 1).trans rfl, (blk_cell BK170.out 2).trans rfl, (blk_cell BK170.out 3).trans rfl⟩ (fun hHeld => ?_)
                      clear hK K
                      refine norm_ (a' := ?_) ?_ ?_
                      rotate_left
                      · show Act.put _ (some 103) _ = _
                        simp only [Act.put, List.setIfInBounds_toArray, List.set_cons_zero, List.set_cons_succ, i64_w, i32_w]
                        rfl
                      refine pure_ (i := 40) (N := some 104) (v := ?_) (a' := ?_) #[true, true, true, true, true, true, true, true, true, true, true, true, true, true, true, true, true, true, true, true, true, true, true, true, true, true, true, true, true, true, true, true, true, true, true, true, true, true, true, true, true, false, false] rfl rfl (any_of HT_.out (by kernel_rfl)) (fun _ _ _ h => h) (Or.inl ⟨by rfl, ?_⟩) ?_ ?_
                      rotate_left
                      · intro w'
                        go_simp
                        with_reducible rfl
                      rotate_left
                      · simp only [Act.put, List.setIfInBounds_toArray, List.set_cons_zero, List.set_cons_succ, i64_w, i32_w]
                        rfl
                      refine pure_ (i := 41) (N := some 105) (v := ?_) (a' := ?_) #[true, true, true, true, true, true, true, true, true, true, true, true, true, true, true, true, true, true, true, true, true, true, true, true, true, true, true, true, true, true, true, true, true, true, true, true, true, true, true, true, true, true, false] rfl rfl (any_of HT_.out (by kernel_rfl)) (fun _ _ _ h => h) (Or.inl ⟨by rfl, ?_⟩) ?_ ?_
                      rotate_left
                      · intro w'
                        go_simp
                        with_reducible rfl
                      rotate_left
                      · simp only [Act.put, List.setIfInBounds_toArray, List.set_cons_zero, List.set_cons_succ, i64_w, i32_w]
                        rfl
                      refine pure_ (i := 42) (N := some 2) (v := ?_) (a' := ?_) #[true, true, true, true, true, true, true, true, true, true, true, true, true, true, true, true, true, true, true, true, true, true, true, true, true, true, true, true, true, true, true, true, true, true, true, true, true, true, true, true, true, true, true] rfl rfl (any_of HT_.out (by kernel_rfl)) (fun _ _ _ h => h) (Or.inl ⟨by rfl, ?_⟩) ?_ ?_
                      rotate_left
                      · intro w'
                        go_simp
                        with_reducible rfl
                      rotate_left
                      · simp only [Act.put, List.setIfInBounds_toArray, List.set_cons_zero, List.set_cons_succ, i64_w, i32_w]
                        rfl
                      refine done_ (done_of HT_.out (by kernel_rfl)) ?_
                      try go_wp2
                      go_ret
                      exact ⟨by first | rfl | (simp [errW_none, errW_some] <;> rfl) | (simp [*, errW_none, errW_some] <;> rfl), by repeat (first | (with_reducible first | exact HB.out | apply below_alloc | apply pw_below_drewN | apply below_drew1 | refine below_set ?_ GE169.out | refine below_set ?_ GE170.out | refine below_set ?_ GE177.out | refine below_set ?_ GE183.out | refine below_set ?_ GE189.out | refine below_set ?_ GE195.out) | exact HB.out)⟩
                    · rw [if_neg c32] at H
                      exact absurd ((Option.some.inj H).trans HRT_.out) (by decide)
                  · rw [if_neg c29] at H
                    exact absurd ((Option.some.inj H).trans HRT_.out) (by decide)
                · rw [if_neg c28] at H
                  exact absurd ((Option.some.inj H).trans HRT_.out) (by decide)
              · rw [if_neg c27] at H
                exact absurd ((Option.some.inj H).trans HRT_.out) (by decide)
            · rw [if_neg c26] at H
              exact absurd ((Option.some.inj H).trans HRT_.out) (by decide)
          · replace c25 := Bool.eq_false_iff.mpr c25
            subst c25
            have H1 : (some false) = some r := by rw [if_neg (show ¬ (false = true) by decide)] at H; exact H
            exact absurd ((Option.some.inj H1).trans HRT_.out) (by decide)
        · replace c24 := Bool.eq_false_iff.mpr c24
          subst c24
          have H1 : (some false) = some r := by rw [if_neg (show ¬ (false = true) by decide)] at H; exact H
          exact absurd ((Option.some.inj H1).trans HRT_.out) (by decide)

end Go.Proofs.Ytiknkkkfkifahaa.PPaperActs
