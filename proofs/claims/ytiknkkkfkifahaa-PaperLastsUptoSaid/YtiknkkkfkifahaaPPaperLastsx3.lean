-- written by a program of this session (pp.py), out of the kit's print and this session's contracts
import Derived.Test.YtiknkkkfkifahaaPPaperLastsx0
import Derived.Test.YtiknkkkfkifahaaPPaperLastsx1
import Derived.Test.YtiknkkkfkifahaaPPaperLastsx2
namespace Go.Proofs.Ytiknkkkfkifahaa.PPaperLasts
open Go.RowKit Go.Proofs.YtiknkkkfkifahaaW.PrintWords Go.Proofs.YtiknkkkfkifahaaW.PrintLast Go.Proofs.YtiknkkkfkifahaaW.PrintMore
attribute [local go_sem] max2_int min2_int max_two min_two max_three min_three max_four min_four   -- for this text's walks alone
set_option linter.unusedVariables false
set_option linter.unusedSimpArgs false

/-! ### selvedgelaw17_PaperLasts: function 15 -/
mutual
def selvedgelaw17_PaperLasts.l0 : Nat → List (S76) → Bool → List ByteArray → List ByteArray → Int → ByteArray → ByteArray → Int → Bool → Option (Bool)
  | 0, _, _, _, _, _, _, _, _, _ => none
  | k + 1, x0, x3, x5, x6, x7, x148000, x148001, x148002, x148003 => if x7 < (x0.length : Int) then (if 0 ≤ x7 then (if ((rd_T76 x0 x7).f0) = 1 then ((paper_Append.f x148000 x148001 x148002 x148003 ((rd_T76 x0 x7).f2)).bind fun bt150 => (if bt150.2.2.2.2 = 0 then ((some (([] : List ByteArray) : List ByteArray)).bind fun y156 => (if y156.length + x6.length < 8796093022208 then ((some (y156 ++ x6 : List ByteArray)).bind fun y159 => ((some (([(rd_T76 x0 x7).f2] : List ByteArray) : List ByteArray)).bind fun y162 => (if y159.length + y162.length < 8796093022208 then (selvedgelaw17_PaperLasts.j1 k x0 x3 x5 (y159 ++ y162) x7 bt150.1 bt150.2.1 bt150.2.2.1 bt150.2.2.2.1) else (none)))) else (none))) else (selvedgelaw17_PaperLasts.j1 k x0 x3 x5 x6 x7 bt150.1 bt150.2.1 bt150.2.2.1 bt150.2.2.2.1))) else (if ((rd_T76 x0 x7).f0) = 2 then ((paper_Sync.f x148000 x148001 x148002 x148003).bind fun bt168 => (if bt168.2.2.2.2 = 0 then (selvedgelaw17_PaperLasts.j1 k x0 x3 x6 x6 x7 bt168.1 bt168.2.1 bt168.2.2.1 bt168.2.2.2.1) else (selvedgelaw17_PaperLasts.j1 k x0 x3 x5 x6 x7 bt168.1 bt168.2.1 bt168.2.2.1 bt168.2.2.2.1))) else (if ((rd_T76 x0 x7).f0) = 3 then ((paper_Crash.f k x148000 x148001 x148002 x148003 ((rd_T76 x0 x7).f1)).bind fun bt174 => ((paper_Records.f k bt174.1 bt174.2.1 bt174.2.2.1 bt174.2.2.2).bind fun t178 => ((selvedgelaw17_begins.f k x5 t178).bind fun t181 => (if t181 = true then ((selvedgelaw17_begins.f k t178 x6).bind fun t182 => (if t182 = true then (selvedgelaw17_PaperLasts.j1 k x0 x3 t178 t178 x7 bt174.1 bt174.2.1 bt174.2.2.1 bt174.2.2.2) else (some false))) else (some false))))) else (if ((rd_T76 x0 x7).f0) = 4 then ((paper_Arm.f x148000 x148001 x148002 x148003 ((rd_T76 x0 x7).f1)).bind fun bt183 => (selvedgelaw17_PaperLasts.j1 k x0 x3 x5 x6 x7 bt183.1 bt183.2.1 bt183.2.2.1 bt183.2.2.2)) else (selvedgelaw17_PaperLasts.j1 k x0 x3 x5 x6 x7 x148000 x148001 x148002 x148003))))) else (none)) else (some x3)
def selvedgelaw17_PaperLasts.j1 : Nat → List (S76) → Bool → List ByteArray → List ByteArray → Int → ByteArray → ByteArray → Int → Bool → Option (Bool)
  | 0, _, _, _, _, _, _, _, _, _ => none
  | k + 1, x0, x3, x5, x6, x7, x148000, x148001, x148002, x148003 => (paper_Records.f k x148000 x148001 x148002 x148003).bind fun t187 => ((selvedgelaw17_begins.f k x5 t187).bind fun t190 => (if t190 = true then ((selvedgeref01_Same.f k t187 x6).bind fun t191 => (if t191 = true then (selvedgelaw17_PaperLasts.l0 k x0 x3 x5 x6 (wrap64 (x7 + 1)) x148000 x148001 x148002 x148003) else (some false))) else (some false)))
end
def selvedgelaw17_PaperLasts.f (k : Nat) (l0 : List (S76)) : Option (Bool) := (selvedgelaw17_shown.f k).bind fun t146 => (selvedgelaw17_PaperLasts.l0 k l0 t146 ([] : List ByteArray) ([] : List ByteArray) 0 (⟨#[]⟩ : ByteArray) (⟨#[]⟩ : ByteArray) (-1) false)
theorem selvedgelaw17_PaperLasts.mono_l : ∀ k, (∀ y0 y1 y2 y3 y4 y5 y6 y7 y8, LeO (selvedgelaw17_PaperLasts.l0 k y0 y1 y2 y3 y4 y5 y6 y7 y8) (selvedgelaw17_PaperLasts.l0 (k + 1) y0 y1 y2 y3 y4 y5 y6 y7 y8)) ∧ (∀ y0 y1 y2 y3 y4 y5 y6 y7 y8, LeO (selvedgelaw17_PaperLasts.j1 k y0 y1 y2 y3 y4 y5 y6 y7 y8) (selvedgelaw17_PaperLasts.j1 (k + 1) y0 y1 y2 y3 y4 y5 y6 y7 y8))
  | 0 => ⟨fun _ _ _ _ _ _ _ _ _ r h => by simp [selvedgelaw17_PaperLasts.l0] at h, fun _ _ _ _ _ _ _ _ _ r h => by simp [selvedgelaw17_PaperLasts.j1] at h⟩
  | k + 1 => by
    obtain ⟨ih0, ih1⟩ := selvedgelaw17_PaperLasts.mono_l k
    refine ⟨?_, ?_⟩
    · intro y0 y1 y2 y3 y4 y5 y6 y7 y8
      unfold selvedgelaw17_PaperLasts.l0
      repeat' first
      | (with_reducible exact ih0 _ _ _ _ _ _ _ _ _)
      | (with_reducible exact ih1 _ _ _ _ _ _ _ _ _)
      | (with_reducible exact paper_Crash.mono _ _ _ _ _ _)
      | (with_reducible exact paper_Records.mono _ _ _ _ _)
      | (with_reducible exact selvedgelaw17_begins.mono _ _ _)
      | (with_reducible exact selvedgelaw17_shown.mono _)
      | (with_reducible exact selvedgeref01_Same.mono _ _ _)
      | (with_reducible exact LeO.refl _)
      | (with_reducible exact LeO.none _)
      | (with_reducible refine LeO.ite ?_ ?_)
      | (with_reducible refine LeO.bind ?_ (fun _ => ?_))
      | exact ih0 _ _ _ _ _ _ _ _ _
      | exact ih1 _ _ _ _ _ _ _ _ _
      | exact paper_Crash.mono _ _ _ _ _ _
      | exact paper_Records.mono _ _ _ _ _
      | exact selvedgelaw17_begins.mono _ _ _
      | exact selvedgelaw17_shown.mono _
      | exact selvedgeref01_Same.mono _ _ _
      | exact LeO.none _
      | refine LeO.ite ?_ ?_
      | refine LeO.bind ?_ (fun _ => ?_)
    · intro y0 y1 y2 y3 y4 y5 y6 y7 y8
      unfold selvedgelaw17_PaperLasts.j1
      repeat' first
      | (with_reducible exact ih0 _ _ _ _ _ _ _ _ _)
      | (with_reducible exact ih1 _ _ _ _ _ _ _ _ _)
      | (with_reducible exact paper_Crash.mono _ _ _ _ _ _)
      | (with_reducible exact paper_Records.mono _ _ _ _ _)
      | (with_reducible exact selvedgelaw17_begins.mono _ _ _)
      | (with_reducible exact selvedgelaw17_shown.mono _)
      | (with_reducible exact selvedgeref01_Same.mono _ _ _)
      | (with_reducible exact LeO.refl _)
      | (with_reducible exact LeO.none _)
      | (with_reducible refine LeO.ite ?_ ?_)
      | (with_reducible refine LeO.bind ?_ (fun _ => ?_))
      | exact ih0 _ _ _ _ _ _ _ _ _
      | exact ih1 _ _ _ _ _ _ _ _ _
      | exact paper_Crash.mono _ _ _ _ _ _
      | exact paper_Records.mono _ _ _ _ _
      | exact selvedgelaw17_begins.mono _ _ _
      | exact selvedgelaw17_shown.mono _
      | exact selvedgeref01_Same.mono _ _ _
      | exact LeO.none _
      | refine LeO.ite ?_ ?_
      | refine LeO.bind ?_ (fun _ => ?_)
theorem selvedgelaw17_PaperLasts.mono : ∀ a0 k, LeO (selvedgelaw17_PaperLasts.f k a0) (selvedgelaw17_PaperLasts.f (k + 1) a0) := by
  intro a0 k
  obtain ⟨ih0, ih1⟩ := selvedgelaw17_PaperLasts.mono_l k
  unfold selvedgelaw17_PaperLasts.f
  repeat' first
      | (with_reducible exact ih0 _ _ _ _ _ _ _ _ _)
      | (with_reducible exact ih1 _ _ _ _ _ _ _ _ _)
      | (with_reducible exact paper_Crash.mono _ _ _ _ _ _)
      | (with_reducible exact paper_Records.mono _ _ _ _ _)
      | (with_reducible exact selvedgelaw17_begins.mono _ _ _)
      | (with_reducible exact selvedgelaw17_shown.mono _)
      | (with_reducible exact selvedgeref01_Same.mono _ _ _)
      | (with_reducible exact LeO.refl _)
      | (with_reducible exact LeO.none _)
      | (with_reducible refine LeO.ite ?_ ?_)
      | (with_reducible refine LeO.bind ?_ (fun _ => ?_))
      | exact ih0 _ _ _ _ _ _ _ _ _
      | exact ih1 _ _ _ _ _ _ _ _ _
      | exact paper_Crash.mono _ _ _ _ _ _
      | exact paper_Records.mono _ _ _ _ _
      | exact selvedgelaw17_begins.mono _ _ _
      | exact selvedgelaw17_shown.mono _
      | exact selvedgeref01_Same.mono _ _ _
      | exact LeO.none _
      | refine LeO.ite ?_ ?_
      | refine LeO.bind ?_ (fun _ => ?_)
def selvedgelaw17_PaperLasts.T14 : Bool × List (List Nat × List Nat) := (true, [([], []), ([], []), ([0, 1], [0, 1]), ([], []), ([3], [3]), ([4], [4]), ([2, 5, 2], [2, 5]), ([6, 6, 0, 1, 2, 3, 4, 5, 6], [1, 6])])
def selvedgelaw17_PaperLasts.B14 : List Nat := [0, 0, 3, 0, 8, 24, 63, 127]
theorem selvedgelaw17_PaperLasts.tab14 : rtab .any (opsOf Try.f15 14) = selvedgelaw17_PaperLasts.T14 := by kernel_rfl
theorem selvedgelaw17_PaperLasts.bits14 : waitsOk selvedgelaw17_PaperLasts.T14.2 selvedgelaw17_PaperLasts.B14 = true := by kernel_rfl
set_option maxHeartbeats 8000000 in
set_option maxRecDepth 100000 in
theorem selvedgelaw17_PaperLasts.calls (k : Nat) (A0 : Option Addr) (c0 : Nat) (l0 : List (S76)) (r : Bool) (hr_ : r = true) (w : World) (hr0 : Kd.C k76 w A0 l0.length l0) (hc0 : l0.length ≤ c0) (h : selvedgelaw17_PaperLasts.f k l0 = some r) :
    Calls Try.prog 15 #[.slice A0 l0.length c0] w fun e w' => e = .returned (.bool r) ∧ Below w.heap.size w w' := by
  have HRT_ := Aside0.mk hr_
  clear hr_
  have hu60 := Try.underlying60
  have hu76 := Try.underlying76
  have HR0 := Aside0.mk hr0
  have HC0 := Aside0.mk hc0
  clear hr0 hc0
  have HB := Aside0.mk (Below.refl w.heap.size w)
  have H : ((selvedgelaw17_shown.f k).bind fun t146 => (selvedgelaw17_PaperLasts.l0 k l0 t146 ([] : List ByteArray) ([] : List ByteArray) 0 (⟨#[]⟩ : ByteArray) (⟨#[]⟩ : ByteArray) (-1) false)) = some r := h
  clear h
  replace H := Option.bind_eq_some_iff.mp H
  obtain ⟨t146, A20, H⟩ := H
  replace H : (selvedgelaw17_PaperLasts.l0 k l0 t146 ([] : List ByteArray) ([] : List ByteArray) 0 (⟨#[]⟩ : ByteArray) (⟨#[]⟩ : ByteArray) (-1) false) = some r := H
  have A2 := Aside0.mk A20
  clear A20
  have H' := Aside0.mk H
  clear H
  go_enter Try.func15, Try.ntmps15
  go_wp2_with (first | ((with_reducible refine gate_callee (f := 31) rfl ?_); refine goesL_ (some 15) rfl rfl Try.func31 (by kernel_rfl) rfl #[] rfl (by (try simp only [List.map_toArray, List.map_cons, List.map_nil]); first | done | rfl | (simp only [List.length_drop, List.length_take]; rfl)) ?_; (with_reducible refine (selvedgelaw17_shown.calls k  t146 _ A2.out).mono ?_); rintro e w3 ⟨rfl, hb⟩; refine ⟨_, rfl, ?_⟩; have n0_ := Aside0.mk (below_step (by repeat (first | (with_reducible first | exact HB.out | apply below_alloc | apply pw_below_drewN | apply below_drew1) | exact HB.out)) hb); clear HB; have HB := n0_; clear n0_; (try clear hb); (try clear hb2); (try clear hk); (try clear hi)) | ((with_reducible refine gate_dst (N := 4) rfl ?_); refine box_event ?hg (N := 4) ?hd (cs := #[.string (⟨#[]⟩ : ByteArray), .string (⟨#[]⟩ : ByteArray), .int .i64 0, .bool false]) (t := 60) ?hr ?_; (case hd => rfl); (case hg => rfl); (case hr => first | (go_simp; done) | (go_simp; rfl)); intro gb147 hg w4 hbox hb; have n0_ := Aside0.mk (below_step (by repeat (first | (with_reducible first | exact HB.out | apply below_alloc | apply pw_below_drewN | apply below_drew1) | exact HB.out)) hb); have n1_ := Aside0.mk (hbox); have n2_ := Aside0.mk ((by rw [hg]; exact (below_size (by repeat (first | (with_reducible first | exact HB.out | apply below_alloc | apply pw_below_drewN | apply below_drew1) | exact HB.out))) : w.heap.size ≤ gb147)); have n3_ := Aside0.mk ((by rw [hg]; exact (below_size (by repeat (first | (with_reducible first | exact HB.out | apply below_alloc | apply pw_below_drewN | apply below_drew1) | exact HB.out))) : w.heap.size ≤ gb147)); clear HB; have HB := n0_; have BK147 := n1_; have GW147 := n2_; have GE147 := n3_; clear n0_ n1_ n2_ n3_; clear hb hbox hg; have hcz5_0 : w4.cell? ⟨gb147, 0, none⟩ = some (.string (⟨#[]⟩ : ByteArray)) := (blk_cell BK147.out 0).trans rfl; have hcz5_1 : w4.cell? ⟨gb147, 1, none⟩ = some (.string (⟨#[]⟩ : ByteArray)) := (blk_cell BK147.out 1).trans rfl; have hcz5_2 : w4.cell? ⟨gb147, 2, none⟩ = some (.int .i64 0) := (blk_cell BK147.out 2).trans rfl; have hcz5_3 : w4.cell? ⟨gb147, 3, none⟩ = some (.bool false) := (blk_cell BK147.out 3).trans rfl; have hfz5_0 := blk_frozen BK147.out 0; have hfz5_1 := blk_frozen BK147.out 1; have hfz5_2 := blk_frozen BK147.out 2; have hfz5_3 := blk_frozen BK147.out 3))
  go_loopg [5, 6, 7] k (fun kq v5 v6 v7 w' => ∃ (x5_1 : List ByteArray) (x6_1 : List ByteArray) (x7_1 : Int) (x148000_1 : ByteArray) (x148001_1 : ByteArray) (x148002_1 : Int) (x148003_1 : Bool), v7 = .int .i64 x7_1 ∧ Aside0 (selvedgelaw17_PaperLasts.l0 kq l0 t146 x5_1 x6_1 x7_1 x148000_1 x148001_1 x148002_1 x148003_1 = some r) ∧ Aside0 (kq ≤ k) ∧ Aside0 (Kd.R Kd.string 9 w' w.heap.size (fun _ => True) v5 x5_1) ∧ Aside0 (Kd.R Kd.string 9 w' w.heap.size (fun _ => True) v6 x6_1) ∧ Aside0 (w'.heap[gb147]? = some (.cells #[.string x148000_1, .string x148001_1, .int .i64 x148002_1, .bool x148003_1] 60 (0, 0))) ∧ Aside0 (Below w.heap.size w w'))
  case atStart => exact ⟨(([] : List ByteArray)), (([] : List ByteArray)), (0), ((⟨#[]⟩ : ByteArray)), ((⟨#[]⟩ : ByteArray)), ((-1)), (false), (by first | rfl | (simp; done) | (simp [*]; done)), H', ⟨Nat.le_refl _⟩, ⟨by first | exact Kd.R_nil _ _ _ _ _ | exact Kd.N_nil _ _ _ _ _ | exact Kd.V_nil _ _ _ _ _ | exact Kd.Q_nil _ _ _ _ _ | exact Kd.S_nil _ _ _ _ _⟩, ⟨by first | exact Kd.R_nil _ _ _ _ _ | exact Kd.N_nil _ _ _ _ _ | exact Kd.V_nil _ _ _ _ _ | exact Kd.Q_nil _ _ _ _ _ | exact Kd.S_nil _ _ _ _ _⟩, ⟨by (with_reducible repeat (first | refine blk_drewN ?_ _ | refine blk_drew ?_ | refine blk_alloc ?_ _)); refine blk_put (cs := #[.string (⟨#[]⟩ : ByteArray), .string (⟨#[]⟩ : ByteArray), .int .i64 (-1), .bool false]) ?_ 3 _ rfl; (with_reducible repeat (first | refine blk_drewN ?_ _ | refine blk_drew ?_ | refine blk_alloc ?_ _)); refine blk_put (cs := #[.string (⟨#[]⟩ : ByteArray), .string (⟨#[]⟩ : ByteArray), .int .i64 0, .bool false]) ?_ 2 _ rfl; (with_reducible repeat (first | refine blk_drewN ?_ _ | refine blk_drew ?_ | refine blk_alloc ?_ _)); refine blk_put (cs := #[.string (⟨#[]⟩ : ByteArray), .string (⟨#[]⟩ : ByteArray), .int .i64 0, .bool false]) ?_ 1 _ rfl; (with_reducible repeat (first | refine blk_drewN ?_ _ | refine blk_drew ?_ | refine blk_alloc ?_ _)); refine blk_put (cs := #[.string (⟨#[]⟩ : ByteArray), .string (⟨#[]⟩ : ByteArray), .int .i64 0, .bool false]) ?_ 0 _ rfl; (with_reducible repeat (first | refine blk_drewN ?_ _ | refine blk_drew ?_ | refine blk_alloc ?_ _)); exact BK147.out⟩, ⟨by repeat (first | (with_reducible first | exact HB.out | apply below_alloc | apply pw_below_drewN | apply below_drew1 | refine below_set ?_ GE147.out) | exact HB.out)⟩⟩
  case round =>
    clear H'
    try clear c1
    try clear p2
    try clear c3
    try clear hcz5_0
    try clear hcz5_1
    try clear hcz5_2
    try clear hcz5_3
    try clear hfz5_0
    try clear hfz5_1
    try clear hfz5_2
    try clear hfz5_3
    obtain ⟨x5_1, x6_1, x7_1, x148000_1, x148001_1, x148002_1, x148003_1, rfl, HA, HK1, HO_5, HO_6, BK147, HB⟩ := hrel
    cases gk with
    | zero => exact absurd HA.out (by simp [selvedgelaw17_PaperLasts.l0])
    | succ k1 =>
      have H := HA.out
      clear HA
      simp only [selvedgelaw17_PaperLasts.l0] at H
      by_cases c6 : x7_1 < (l0.length : Int)
      · rw [if_pos c6] at H
        have c6b0 : decide (x7_1 < (l0.length : Int)) = true := decide_eq_true c6
        clear c6
        by_cases c7 : 0 ≤ x7_1
        · rw [if_pos c7] at H
          have c7b0 : decide (0 ≤ x7_1) = true := decide_eq_true c7
          clear c7
          have HC8 := Aside0.mk H
          clear H
          have p148 : 0 ≤ (x7_1 : Int) := of_decide_eq_true (by first | (with_reducible assumption) | assumption)
          have q148 : x7_1 < (l0.length : Int) := of_decide_eq_true (by first | (with_reducible assumption) | assumption)
          obtain ⟨ad148, e148, hx148_0, hx148_1, hx148_2⟩ := at_T76 HR0.out x7_1 p148 q148
          cases e148
          replace hx148_0 := (HB.out.cell (World.block_lt_of_cell? w _ hx148_0)).trans hx148_0
          replace hx148_1 := (HB.out.cell (World.block_lt_of_cell? w _ hx148_1)).trans hx148_1
          replace hx148_2 := (HB.out.cell (World.block_lt_of_cell? w _ hx148_2)).trans hx148_2
          replace p148 := eq_true p148
          replace q148 := eq_true q148
          go_upto_block 2 with (first | ((with_reducible refine gate_dst (N := 8) rfl ?_); refine box_event ?hg (N := 8) ?hd (cs := #[.int .i64 0, .int .i64 0, .string (⟨#[]⟩ : ByteArray)]) (t := 76) ?hr ?_; (case hd => rfl); (case hg => rfl); (case hr => first | (go_simp; done) | (go_simp; rfl)); intro gb149 hg w9 hbox hb; have n0_ := Aside0.mk (Kd.R_below (by (with_reducible repeat (first | apply Kd.R_alloc | apply Kd.R_drewN | apply Kd.R_drew)); exact HO_5.out) hb); have n1_ := Aside0.mk (Kd.R_below (by (with_reducible repeat (first | apply Kd.R_alloc | apply Kd.R_drewN | apply Kd.R_drew)); exact HO_6.out) hb); have n2_ := Aside0.mk (blk_below (g := gb147) (o := .cells #[.string x148000_1, .string x148001_1, .int .i64 x148002_1, .bool x148003_1] 60 (0, 0)) (by (with_reducible repeat (first | refine blk_drewN ?_ _ | refine blk_drew ?_ | refine blk_alloc ?_ _)); exact BK147.out) hb); have n3_ := Aside0.mk (below_step (by repeat (first | (with_reducible first | exact HB.out | apply below_alloc | apply pw_below_drewN | apply below_drew1 | refine below_set ?_ GE147.out) | exact HB.out)) hb); have n4_ := Aside0.mk (hbox); have n5_ := Aside0.mk ((by rw [hg]; exact (below_size (by repeat (first | (with_reducible first | exact HB.out | apply below_alloc | apply pw_below_drewN | apply below_drew1 | refine below_set ?_ GE147.out) | exact HB.out))) : w.heap.size ≤ gb149)); have n6_ := Aside0.mk ((by rw [hg]; exact (below_size (by repeat (first | (with_reducible first | exact HB.out | apply below_alloc | apply pw_below_drewN | apply below_drew1 | refine below_set ?_ GE147.out) | exact HB.out))) : w.heap.size ≤ gb149)); have n7_ := Aside0.mk ((by rw [hg]; exact Nat.ne_of_lt (blk_lt (g := gb147) (o := .cells #[.string x148000_1, .string x148001_1, .int .i64 x148002_1, .bool x148003_1] 60 (0, 0)) (by (with_reducible repeat (first | refine blk_drewN ?_ _ | refine blk_drew ?_ | refine blk_alloc ?_ _)); exact BK147.out)) : gb147 ≠ gb149)); have n8_ := Aside0.mk ((by rw [hg]; exact Nat.ne_of_gt (blk_lt (g := gb147) (o := .cells #[.string x148000_1, .string x148001_1, .int .i64 x148002_1, .bool x148003_1] 60 (0, 0)) (by (with_reducible repeat (first | refine blk_drewN ?_ _ | refine blk_drew ?_ | refine blk_alloc ?_ _)); exact BK147.out)) : gb149 ≠ gb147)); clear HO_5; clear HO_6; clear BK147; clear HB; have HO_5 := n0_; have HO_6 := n1_; have BK147 := n2_; have HB := n3_; have BK149 := n4_; have GW149 := n5_; have GE149 := n6_; have NB147_149 := n7_; have NB149_147 := n8_; clear n0_ n1_ n2_ n3_ n4_ n5_ n6_ n7_ n8_; clear hb hbox hg; have hnb10 := NB149_147.out; have hnc10 := NB147_149.out; have hcz11_0 : w9.cell? ⟨gb149, 0, none⟩ = some (.int .i64 0) := (blk_cell BK149.out 0).trans rfl; have hcz11_1 : w9.cell? ⟨gb149, 1, none⟩ = some (.int .i64 0) := (blk_cell BK149.out 1).trans rfl; have hcz11_2 : w9.cell? ⟨gb149, 2, none⟩ = some (.string (⟨#[]⟩ : ByteArray)) := (blk_cell BK149.out 2).trans rfl; have hfz11_0 := blk_frozen BK149.out 0; have hfz11_1 := blk_frozen BK149.out 1; have hfz11_2 := blk_frozen BK149.out 2))
          (try simp only [Act.put, List.setIfInBounds_toArray, List.set_cons_zero, List.set_cons_succ])
          go_cut [5, 6] (fun v5 v6 wc => ∃ (kq : Nat) (x5_7 : List ByteArray) (x6_7 : List ByteArray) (x148000_7 : ByteArray) (x148001_7 : ByteArray) (x148002_7 : Int) (x148003_7 : Bool), Aside0 (selvedgelaw17_PaperLasts.j1 kq l0 t146 x5_7 x6_7 x7_1 x148000_7 x148001_7 x148002_7 x148003_7 = some r) ∧ Aside0 (kq ≤ k1) ∧ Aside0 (Kd.R Kd.string 9 wc w.heap.size (fun _ => True) v5 x5_7) ∧ Aside0 (Kd.R Kd.string 9 wc w.heap.size (fun _ => True) v6 x6_7) ∧ Aside0 (wc.heap[gb147]? = some (.cells #[.string x148000_7, .string x148001_7, .int .i64 x148002_7, .bool x148003_7] 60 (0, 0))) ∧ Aside0 (wc.heap[gb149]? = some (.cells #[.int .i64 ((rd_T76 l0 x7_1).f0), .int .i64 ((rd_T76 l0 x7_1).f1), .string ((rd_T76 l0 x7_1).f2)] 76 (0, 0))) ∧ Aside0 (Below w.heap.size w wc))
          case first =>
            have H := HC8.out
            clear HC8
            by_cases c12 : ((rd_T76 l0 x7_1).f0) = 1
            · rw [if_pos c12] at H
              have c12b0 : (((rd_T76 l0 x7_1).f0) == 1) = true := beq_iff_eq.mpr c12
              have c12b1 : (((rd_T76 l0 x7_1).f0) != 1) = false := bne_eq_false_iff_eq.mpr c12
              clear c12
              (first | rw [c12b0] | (simp only [i64_w, i32_w]; rw [c12b0]) | skip)
              replace H := Option.bind_eq_some_iff.mp H
              obtain ⟨⟨t150, t151, t152, t153, t154⟩, A130, H⟩ := H
              replace H : (if t154 = 0 then ((some (([] : List ByteArray) : List ByteArray)).bind fun y156 => (if y156.length + x6_1.length < 8796093022208 then ((some (y156 ++ x6_1 : List ByteArray)).bind fun y159 => ((some (([(rd_T76 l0 x7_1).f2] : List ByteArray) : List ByteArray)).bind fun y162 => (if y159.length + y162.length < 8796093022208 then (selvedgelaw17_PaperLasts.j1 k1 l0 t146 x5_1 (y159 ++ y162) x7_1 t150 t151 t152 t153) else (none)))) else (none))) else (selvedgelaw17_PaperLasts.j1 k1 l0 t146 x5_1 x6_1 x7_1 t150 t151 t152 t153)) = some r := H
              have A13 := Aside0.mk A130
              clear A130
              by_cases c14 : t154 = 0
              · rw [if_pos c14] at H
                have c14b0 : (t154 == 0) = true := beq_iff_eq.mpr c14
                have c14b1 : (t154 != 0) = false := bne_eq_false_iff_eq.mpr c14
                clear c14
                obtain ⟨y156, hy156⟩ : ∃ y_ : List ByteArray, y_ = (([] : List ByteArray)) := ⟨_, rfl⟩
                replace H : (if y156.length + x6_1.length < 8796093022208 then ((some (y156 ++ x6_1 : List ByteArray)).bind fun y159 => ((some (([(rd_T76 l0 x7_1).f2] : List ByteArray) : List ByteArray)).bind fun y162 => (if y159.length + y162.length < 8796093022208 then (selvedgelaw17_PaperLasts.j1 k1 l0 t146 x5_1 (y159 ++ y162) x7_1 t150 t151 t152 t153) else (none)))) else (none)) = some r := by first | (rw [hy156]; with_reducible exact H) | (have H2_ := (Option.bind_some _ _).symm.trans H; rw [hy156]; with_reducible exact H2_) | (have H2_ := (Option.bind_some _ _).symm.trans H; with_reducible exact H2_) | with_reducible exact H | (rw [hy156]; exact H) | exact H
                have Ny156 := Aside0.mk hy156
                clear hy156
                by_cases c15 : y156.length + x6_1.length < 8796093022208
                · rw [if_pos c15] at H
                  have LMc15 := Aside0.mk c15
                  clear c15
                  obtain ⟨y159, hy159⟩ : ∃ y_ : List ByteArray, y_ = (y156 ++ x6_1) := ⟨_, rfl⟩
                  replace H : ((some (([(rd_T76 l0 x7_1).f2] : List ByteArray) : List ByteArray)).bind fun y162 => (if y159.length + y162.length < 8796093022208 then (selvedgelaw17_PaperLasts.j1 k1 l0 t146 x5_1 (y159 ++ y162) x7_1 t150 t151 t152 t153) else (none))) = some r := by first | (rw [hy159]; with_reducible exact H) | (have H2_ := (Option.bind_some _ _).symm.trans H; rw [hy159]; with_reducible exact H2_) | (have H2_ := (Option.bind_some _ _).symm.trans H; with_reducible exact H2_) | with_reducible exact H | (rw [hy159]; exact H) | exact H
                  have Ny159 := Aside0.mk hy159
                  clear hy159
                  obtain ⟨y162, hy162⟩ : ∃ y_ : List ByteArray, y_ = (([(rd_T76 l0 x7_1).f2] : List ByteArray)) := ⟨_, rfl⟩
                  replace H : (if y159.length + y162.length < 8796093022208 then (selvedgelaw17_PaperLasts.j1 k1 l0 t146 x5_1 (y159 ++ y162) x7_1 t150 t151 t152 t153) else (none)) = some r := by first | (rw [hy162]; with_reducible exact H) | (have H2_ := (Option.bind_some _ _).symm.trans H; rw [hy162]; with_reducible exact H2_) | (have H2_ := (Option.bind_some _ _).symm.trans H; with_reducible exact H2_) | with_reducible exact H | (rw [hy162]; exact H) | exact H
                  have Ny162 := Aside0.mk hy162
                  clear hy162
                  by_cases c16 : y159.length + y162.length < 8796093022208
                  · rw [if_pos c16] at H
                    have LMc16 := Aside0.mk c16
                    clear c16
                    obtain ⟨y165, hy165⟩ : ∃ y_ : List ByteArray, y_ = (y159 ++ y162) := ⟨_, rfl⟩
                    replace H : (selvedgelaw17_PaperLasts.j1 k1 l0 t146 x5_1 y165 x7_1 t150 t151 t152 t153) = some r := by first | (rw [hy165]; with_reducible exact H) | (have H2_ := (Option.bind_some _ _).symm.trans H; rw [hy165]; with_reducible exact H2_) | (have H2_ := (Option.bind_some _ _).symm.trans H; with_reducible exact H2_) | with_reducible exact H | (rw [hy165]; exact H) | exact H
                    have Ny165 := Aside0.mk hy165
                    clear hy165
                    have H' := Aside0.mk H
                    clear H
                    have hnb17 := NB147_149.out
                    have hnc17 := NB149_147.out
                    have hcz18_0 : w9.cell? ⟨gb147, 0, none⟩ = some (.string x148000_1) := (blk_cell BK147.out 0).trans rfl
                    have hcz18_1 : w9.cell? ⟨gb147, 1, none⟩ = some (.string x148001_1) := (blk_cell BK147.out 1).trans rfl
                    have hcz18_2 : w9.cell? ⟨gb147, 2, none⟩ = some (.int .i64 x148002_1) := (blk_cell BK147.out 2).trans rfl
                    have hcz18_3 : w9.cell? ⟨gb147, 3, none⟩ = some (.bool x148003_1) := (blk_cell BK147.out 3).trans rfl
                    have hfz18_0 := blk_frozen BK147.out 0
                    have hfz18_1 := blk_frozen BK147.out 1
                    have hfz18_2 := blk_frozen BK147.out 2
                    have hfz18_3 := blk_frozen BK147.out 3
                    have hcz19_0 : w9.cell? ⟨gb149, 0, none⟩ = some (.int .i64 0) := (blk_cell BK149.out 0).trans rfl
                    have hcz19_1 : w9.cell? ⟨gb149, 1, none⟩ = some (.int .i64 0) := (blk_cell BK149.out 1).trans rfl
                    have hcz19_2 : w9.cell? ⟨gb149, 2, none⟩ = some (.string (⟨#[]⟩ : ByteArray)) := (blk_cell BK149.out 2).trans rfl
                    have hfz19_0 := blk_frozen BK149.out 0
                    have hfz19_1 := blk_frozen BK149.out 1
                    have hfz19_2 := blk_frozen BK149.out 2
                    try go_wp2_with (first | ((with_reducible refine gate_callee (f := 37) rfl ?_); refine goesL_ (some 35) rfl rfl Try.func37 (by kernel_rfl) rfl #[.agg #[.string x148000_1, .string x148001_1, .int .i64 x148002_1, .bool x148003_1], .string ((rd_T76 l0 x7_1).f2)] rfl (by (try simp only [List.map_toArray, List.map_cons, List.map_nil]); first | done | rfl | (simp only [List.length_drop, List.length_take]; rfl)) ?_; (with_reducible refine (paper_Append.calls x148000_1 x148001_1 x148002_1 x148003_1 ((rd_T76 l0 x7_1).f2) t150 t151 t152 t153 t154 _ A13.out).mono ?_); rintro e w20 ⟨rfl, hb⟩; refine ⟨_, rfl, ?_⟩; have n0_ := Aside0.mk (Kd.R_below (by (with_reducible repeat (first | apply Kd.R_alloc | apply Kd.R_drewN | apply Kd.R_drew)); exact (Kd.R_mono (Kd.R_far (p := ⟨gb149, 2, none⟩) (Kd.R_far (p := ⟨gb149, 1, none⟩) (Kd.R_far (p := ⟨gb149, 0, none⟩) (Kd.R_types HO_5.out BK149.out (by decide)) (fun _ hk => hk.2) (.int .i64 ((rd_T76 l0 x7_1).f0))) (fun _ hk => hk.2) (.int .i64 ((rd_T76 l0 x7_1).f1))) (fun _ hk => hk.2) (.string ((rd_T76 l0 x7_1).f2))) (fun _ h_ => h_.1))) hb); have n1_ := Aside0.mk (Kd.R_below (by (with_reducible repeat (first | apply Kd.R_alloc | apply Kd.R_drewN | apply Kd.R_drew)); exact (Kd.R_mono (Kd.R_far (p := ⟨gb149, 2, none⟩) (Kd.R_far (p := ⟨gb149, 1, none⟩) (Kd.R_far (p := ⟨gb149, 0, none⟩) (Kd.R_types HO_6.out BK149.out (by decide)) (fun _ hk => hk.2) (.int .i64 ((rd_T76 l0 x7_1).f0))) (fun _ hk => hk.2) (.int .i64 ((rd_T76 l0 x7_1).f1))) (fun _ hk => hk.2) (.string ((rd_T76 l0 x7_1).f2))) (fun _ h_ => h_.1))) hb); have n2_ := Aside0.mk (blk_below (g := gb147) (o := .cells #[.string x148000_1, .string x148001_1, .int .i64 x148002_1, .bool x148003_1] 60 (0, 0)) (by (with_reducible repeat (first | refine blk_drewN ?_ _ | refine blk_drew ?_ | refine blk_alloc ?_ _)); refine blk_far ?_ NB147_149.out _; (with_reducible repeat (first | refine blk_drewN ?_ _ | refine blk_drew ?_ | refine blk_alloc ?_ _)); refine blk_far ?_ NB147_149.out _; (with_reducible repeat (first | refine blk_drewN ?_ _ | refine blk_drew ?_ | refine blk_alloc ?_ _)); refine blk_far ?_ NB147_149.out _; (with_reducible repeat (first | refine blk_drewN ?_ _ | refine blk_drew ?_ | refine blk_alloc ?_ _)); exact BK147.out) hb); have n3_ := Aside0.mk (blk_below (g := gb149) (o := .cells #[.int .i64 ((rd_T76 l0 x7_1).f0), .int .i64 ((rd_T76 l0 x7_1).f1), .string ((rd_T76 l0 x7_1).f2)] 76 (0, 0)) (by (with_reducible repeat (first | refine blk_drewN ?_ _ | refine blk_drew ?_ | refine blk_alloc ?_ _)); refine blk_put (cs := #[.int .i64 ((rd_T76 l0 x7_1).f0), .int .i64 ((rd_T76 l0 x7_1).f1), .string (⟨#[]⟩ : ByteArray)]) ?_ 2 _ rfl; (with_reducible repeat (first | refine blk_drewN ?_ _ | refine blk_drew ?_ | refine blk_alloc ?_ _)); refine blk_put (cs := #[.int .i64 ((rd_T76 l0 x7_1).f0), .int .i64 0, .string (⟨#[]⟩ : ByteArray)]) ?_ 1 _ rfl; (with_reducible repeat (first | refine blk_drewN ?_ _ | refine blk_drew ?_ | refine blk_alloc ?_ _)); refine blk_put (cs := #[.int .i64 0, .int .i64 0, .string (⟨#[]⟩ : ByteArray)]) ?_ 0 _ rfl; (with_reducible repeat (first | refine blk_drewN ?_ _ | refine blk_drew ?_ | refine blk_alloc ?_ _)); exact BK149.out) hb); have n4_ := Aside0.mk (below_step (by repeat (first | (with_reducible first | exact HB.out | apply below_alloc | apply pw_below_drewN | apply below_drew1 | refine below_set ?_ GE147.out | refine below_set ?_ GE149.out) | exact HB.out)) hb); clear HO_5; clear HO_6; clear BK147; clear BK149; clear HB; have HO_5 := n0_; have HO_6 := n1_; have BK147 := n2_; have BK149 := n3_; have HB := n4_; clear n0_ n1_ n2_ n3_ n4_; (try clear hb); (try clear hb2); (try clear hk); (try clear hi)) | ((with_reducible refine gate_dst (N := 9) rfl ?_); refine box_event ?hg (N := 9) ?hd (cs := #[.string (⟨#[]⟩ : ByteArray), .string (⟨#[]⟩ : ByteArray), .int .i64 0, .bool false]) (t := 60) ?hr ?_; (case hd => rfl); (case hg => rfl); (case hr => first | (go_simp; done) | (go_simp; rfl)); intro gb155 hg w21 hbox hb; have n0_ := Aside0.mk (Kd.R_below (by (with_reducible repeat (first | apply Kd.R_alloc | apply Kd.R_drewN | apply Kd.R_drew)); exact HO_5.out) hb); have n1_ := Aside0.mk (Kd.R_below (by (with_reducible repeat (first | apply Kd.R_alloc | apply Kd.R_drewN | apply Kd.R_drew)); exact HO_6.out) hb); have n2_ := Aside0.mk (blk_below (g := gb147) (o := .cells #[.string x148000_1, .string x148001_1, .int .i64 x148002_1, .bool x148003_1] 60 (0, 0)) (by (with_reducible repeat (first | refine blk_drewN ?_ _ | refine blk_drew ?_ | refine blk_alloc ?_ _)); exact BK147.out) hb); have n3_ := Aside0.mk (blk_below (g := gb149) (o := .cells #[.int .i64 ((rd_T76 l0 x7_1).f0), .int .i64 ((rd_T76 l0 x7_1).f1), .string ((rd_T76 l0 x7_1).f2)] 76 (0, 0)) (by (with_reducible repeat (first | refine blk_drewN ?_ _ | refine blk_drew ?_ | refine blk_alloc ?_ _)); exact BK149.out) hb); have n4_ := Aside0.mk (below_step (by repeat (first | (with_reducible first | exact HB.out | apply below_alloc | apply pw_below_drewN | apply below_drew1 | refine below_set ?_ GE147.out | refine below_set ?_ GE149.out) | exact HB.out)) hb); have n5_ := Aside0.mk (hbox); have n6_ := Aside0.mk ((by rw [hg]; exact (below_size (by repeat (first | (with_reducible first | exact HB.out | apply below_alloc | apply pw_below_drewN | apply below_drew1 | refine below_set ?_ GE147.out | refine below_set ?_ GE149.out) | exact HB.out))) : w.heap.size ≤ gb155)); have n7_ := Aside0.mk ((by rw [hg]; exact (below_size (by repeat (first | (with_reducible first | exact HB.out | apply below_alloc | apply pw_below_drewN | apply below_drew1 | refine below_set ?_ GE147.out | refine below_set ?_ GE149.out) | exact HB.out))) : w.heap.size ≤ gb155)); have n8_ := Aside0.mk ((by rw [hg]; exact Nat.ne_of_lt (blk_lt (g := gb147) (o := .cells #[.string x148000_1, .string x148001_1, .int .i64 x148002_1, .bool x148003_1] 60 (0, 0)) (by (with_reducible repeat (first | refine blk_drewN ?_ _ | refine blk_drew ?_ | refine blk_alloc ?_ _)); exact BK147.out)) : gb147 ≠ gb155)); have n9_ := Aside0.mk ((by rw [hg]; exact Nat.ne_of_gt (blk_lt (g := gb147) (o := .cells #[.string x148000_1, .string x148001_1, .int .i64 x148002_1, .bool x148003_1] 60 (0, 0)) (by (with_reducible repeat (first | refine blk_drewN ?_ _ | refine blk_drew ?_ | refine blk_alloc ?_ _)); exact BK147.out)) : gb155 ≠ gb147)); have n10_ := Aside0.mk ((by rw [hg]; exact Nat.ne_of_lt (blk_lt (g := gb149) (o := .cells #[.int .i64 ((rd_T76 l0 x7_1).f0), .int .i64 ((rd_T76 l0 x7_1).f1), .string ((rd_T76 l0 x7_1).f2)] 76 (0, 0)) (by (with_reducible repeat (first | refine blk_drewN ?_ _ | refine blk_drew ?_ | refine blk_alloc ?_ _)); exact BK149.out)) : gb149 ≠ gb155)); have n11_ := Aside0.mk ((by rw [hg]; exact Nat.ne_of_gt (blk_lt (g := gb149) (o := .cells #[.int .i64 ((rd_T76 l0 x7_1).f0), .int .i64 ((rd_T76 l0 x7_1).f1), .string ((rd_T76 l0 x7_1).f2)] 76 (0, 0)) (by (with_reducible repeat (first | refine blk_drewN ?_ _ | refine blk_drew ?_ | refine blk_alloc ?_ _)); exact BK149.out)) : gb155 ≠ gb149)); clear HO_5; clear HO_6; clear BK147; clear BK149; clear HB; have HO_5 := n0_; have HO_6 := n1_; have BK147 := n2_; have BK149 := n3_; have HB := n4_; have BK155 := n5_; have GW155 := n6_; have GE155 := n7_; have NB147_155 := n8_; have NB155_147 := n9_; have NB149_155 := n10_; have NB155_149 := n11_; clear n0_ n1_ n2_ n3_ n4_ n5_ n6_ n7_ n8_ n9_ n10_ n11_; clear hb hbox hg; have hnb22 := NB155_147.out; have hnc22 := NB147_155.out; have hnb23 := NB155_149.out; have hnc23 := NB149_155.out; have hcz24_0 : w21.cell? ⟨gb155, 0, none⟩ = some (.string (⟨#[]⟩ : ByteArray)) := (blk_cell BK155.out 0).trans rfl; have hcz24_1 : w21.cell? ⟨gb155, 1, none⟩ = some (.string (⟨#[]⟩ : ByteArray)) := (blk_cell BK155.out 1).trans rfl; have hcz24_2 : w21.cell? ⟨gb155, 2, none⟩ = some (.int .i64 0) := (blk_cell BK155.out 2).trans rfl; have hcz24_3 : w21.cell? ⟨gb155, 3, none⟩ = some (.bool false) := (blk_cell BK155.out 3).trans rfl; have hfz24_0 := blk_frozen BK155.out 0; have hfz24_1 := blk_frozen BK155.out 1; have hfz24_2 := blk_frozen BK155.out 2; have hfz24_3 := blk_frozen BK155.out 3; have hcz25_0 : w21.cell? ⟨gb147, 0, none⟩ = some (.string x148000_1) := (blk_cell BK147.out 0).trans rfl; have hcz25_1 : w21.cell? ⟨gb147, 1, none⟩ = some (.string x148001_1) := (blk_cell BK147.out 1).trans rfl; have hcz25_2 : w21.cell? ⟨gb147, 2, none⟩ = some (.int .i64 x148002_1) := (blk_cell BK147.out 2).trans rfl; have hcz25_3 : w21.cell? ⟨gb147, 3, none⟩ = some (.bool x148003_1) := (blk_cell BK147.out 3).trans rfl; have hfz25_0 := blk_frozen BK147.out 0; have hfz25_1 := blk_frozen BK147.out 1; have hfz25_2 := blk_frozen BK147.out 2; have hfz25_3 := blk_frozen BK147.out 3; obtain ⟨Ao26, co26, eo26⟩ := Kd.R_slice HO_6.out; subst eo26))
                    have n0_ : Aside0 (Kd.R Kd.string 9 ((((((((w21.setCell ⟨gb155, 0, none⟩ (.string t150)).setCell ⟨gb155, 1, none⟩ (.string t151)).setCell ⟨gb155, 2, none⟩ (.int .i64 t152)).setCell ⟨gb155, 3, none⟩ (.bool t153)).setCell ⟨gb147, 0, none⟩ (.string t150)).setCell ⟨gb147, 1, none⟩ (.string t151)).setCell ⟨gb147, 2, none⟩ (.int .i64 t152)).setCell ⟨gb147, 3, none⟩ (.bool t153)) w.heap.size (fun k_ => True) u5 x5_1) := ⟨by (with_reducible repeat (first | apply Kd.R_alloc | apply Kd.R_drewN | apply Kd.R_drew)); exact Kd.R_mono (Kd.R_far (p := ⟨gb147, 3, none⟩) (Kd.R_far (p := ⟨gb147, 2, none⟩) (Kd.R_far (p := ⟨gb147, 1, none⟩) (Kd.R_far (p := ⟨gb147, 0, none⟩) (Kd.R_far (p := ⟨gb155, 3, none⟩) (Kd.R_far (p := ⟨gb155, 2, none⟩) (Kd.R_far (p := ⟨gb155, 1, none⟩) (Kd.R_far (p := ⟨gb155, 0, none⟩) (Kd.R_types (Kd.R_types HO_5.out BK155.out (by decide)) BK147.out (by decide)) (fun _ hk => hk.1.2) (.string t150)) (fun _ hk => hk.1.2) (.string t151)) (fun _ hk => hk.1.2) (.int .i64 t152)) (fun _ hk => hk.1.2) (.bool t153)) (fun _ hk => hk.2) (.string t150)) (fun _ hk => hk.2) (.string t151)) (fun _ hk => hk.2) (.int .i64 t152)) (fun _ hk => hk.2) (.bool t153)) (fun _ hk => hk.1.1)⟩
                    have n1_ : Aside0 (Kd.R Kd.string 9 ((((((((w21.setCell ⟨gb155, 0, none⟩ (.string t150)).setCell ⟨gb155, 1, none⟩ (.string t151)).setCell ⟨gb155, 2, none⟩ (.int .i64 t152)).setCell ⟨gb155, 3, none⟩ (.bool t153)).setCell ⟨gb147, 0, none⟩ (.string t150)).setCell ⟨gb147, 1, none⟩ (.string t151)).setCell ⟨gb147, 2, none⟩ (.int .i64 t152)).setCell ⟨gb147, 3, none⟩ (.bool t153)) w.heap.size (fun k_ => True) (.slice Ao26 x6_1.length co26) x6_1) := ⟨by (with_reducible repeat (first | apply Kd.R_alloc | apply Kd.R_drewN | apply Kd.R_drew)); exact Kd.R_mono (Kd.R_far (p := ⟨gb147, 3, none⟩) (Kd.R_far (p := ⟨gb147, 2, none⟩) (Kd.R_far (p := ⟨gb147, 1, none⟩) (Kd.R_far (p := ⟨gb147, 0, none⟩) (Kd.R_far (p := ⟨gb155, 3, none⟩) (Kd.R_far (p := ⟨gb155, 2, none⟩) (Kd.R_far (p := ⟨gb155, 1, none⟩) (Kd.R_far (p := ⟨gb155, 0, none⟩) (Kd.R_types (Kd.R_types HO_6.out BK155.out (by decide)) BK147.out (by decide)) (fun _ hk => hk.1.2) (.string t150)) (fun _ hk => hk.1.2) (.string t151)) (fun _ hk => hk.1.2) (.int .i64 t152)) (fun _ hk => hk.1.2) (.bool t153)) (fun _ hk => hk.2) (.string t150)) (fun _ hk => hk.2) (.string t151)) (fun _ hk => hk.2) (.int .i64 t152)) (fun _ hk => hk.2) (.bool t153)) (fun _ hk => hk.1.1)⟩
                    have n2_ : Aside0 (((((((((w21.setCell ⟨gb155, 0, none⟩ (.string t150)).setCell ⟨gb155, 1, none⟩ (.string t151)).setCell ⟨gb155, 2, none⟩ (.int .i64 t152)).setCell ⟨gb155, 3, none⟩ (.bool t153)).setCell ⟨gb147, 0, none⟩ (.string t150)).setCell ⟨gb147, 1, none⟩ (.string t151)).setCell ⟨gb147, 2, none⟩ (.int .i64 t152)).setCell ⟨gb147, 3, none⟩ (.bool t153)).heap[gb147]? = some (.cells #[.string t150, .string t151, .int .i64 t152, .bool t153] 60 (0, 0))) := ⟨by (with_reducible repeat (first | refine blk_drewN ?_ _ | refine blk_drew ?_ | refine blk_alloc ?_ _)); refine blk_put (cs := #[.string t150, .string t151, .int .i64 t152, .bool x148003_1]) ?_ 3 _ rfl; (with_reducible repeat (first | refine blk_drewN ?_ _ | refine blk_drew ?_ | refine blk_alloc ?_ _)); refine blk_put (cs := #[.string t150, .string t151, .int .i64 x148002_1, .bool x148003_1]) ?_ 2 _ rfl; (with_reducible repeat (first | refine blk_drewN ?_ _ | refine blk_drew ?_ | refine blk_alloc ?_ _)); refine blk_put (cs := #[.string t150, .string x148001_1, .int .i64 x148002_1, .bool x148003_1]) ?_ 1 _ rfl; (with_reducible repeat (first | refine blk_drewN ?_ _ | refine blk_drew ?_ | refine blk_alloc ?_ _)); refine blk_put (cs := #[.string x148000_1, .string x148001_1, .int .i64 x148002_1, .bool x148003_1]) ?_ 0 _ rfl; (with_reducible repeat (first | refine blk_drewN ?_ _ | refine blk_drew ?_ | refine blk_alloc ?_ _)); refine blk_far ?_ NB147_155.out _; (with_reducible repeat (first | refine blk_drewN ?_ _ | refine blk_drew ?_ | refine blk_alloc ?_ _)); refine blk_far ?_ NB147_155.out _; (with_reducible repeat (first | refine blk_drewN ?_ _ | refine blk_drew ?_ | refine blk_alloc ?_ _)); refine blk_far ?_ NB147_155.out _; (with_reducible repeat (first | refine blk_drewN ?_ _ | refine blk_drew ?_ | refine blk_alloc ?_ _)); refine blk_far ?_ NB147_155.out _; (with_reducible repeat (first | refine blk_drewN ?_ _ | refine blk_drew ?_ | refine blk_alloc ?_ _)); exact BK147.out⟩
                    have n3_ : Aside0 (((((((((w21.setCell ⟨gb155, 0, none⟩ (.string t150)).setCell ⟨gb155, 1, none⟩ (.string t151)).setCell ⟨gb155, 2, none⟩ (.int .i64 t152)).setCell ⟨gb155, 3, none⟩ (.bool t153)).setCell ⟨gb147, 0, none⟩ (.string t150)).setCell ⟨gb147, 1, none⟩ (.string t151)).setCell ⟨gb147, 2, none⟩ (.int .i64 t152)).setCell ⟨gb147, 3, none⟩ (.bool t153)).heap[gb149]? = some (.cells #[.int .i64 ((rd_T76 l0 x7_1).f0), .int .i64 ((rd_T76 l0 x7_1).f1), .string ((rd_T76 l0 x7_1).f2)] 76 (0, 0))) := ⟨by (with_reducible repeat (first | refine blk_drewN ?_ _ | refine blk_drew ?_ | refine blk_alloc ?_ _)); refine blk_far ?_ NB149_147.out _; (with_reducible repeat (first | refine blk_drewN ?_ _ | refine blk_drew ?_ | refine blk_alloc ?_ _)); refine blk_far ?_ NB149_147.out _; (with_reducible repeat (first | refine blk_drewN ?_ _ | refine blk_drew ?_ | refine blk_alloc ?_ _)); refine blk_far ?_ NB149_147.out _; (with_reducible repeat (first | refine blk_drewN ?_ _ | refine blk_drew ?_ | refine blk_alloc ?_ _)); refine blk_far ?_ NB149_147.out _; (with_reducible repeat (first | refine blk_drewN ?_ _ | refine blk_drew ?_ | refine blk_alloc ?_ _)); refine blk_far ?_ NB149_155.out _; (with_reducible repeat (first | refine blk_drewN ?_ _ | refine blk_drew ?_ | refine blk_alloc ?_ _)); refine blk_far ?_ NB149_155.out _; (with_reducible repeat (first | refine blk_drewN ?_ _ | refine blk_drew ?_ | refine blk_alloc ?_ _)); refine blk_far ?_ NB149_155.out _; (with_reducible repeat (first | refine blk_drewN ?_ _ | refine blk_drew ?_ | refine blk_alloc ?_ _)); refine blk_far ?_ NB149_155.out _; (with_reducible repeat (first | refine blk_drewN ?_ _ | refine blk_drew ?_ | refine blk_alloc ?_ _)); exact BK149.out⟩
                    have n4_ : Aside0 (((((((((w21.setCell ⟨gb155, 0, none⟩ (.string t150)).setCell ⟨gb155, 1, none⟩ (.string t151)).setCell ⟨gb155, 2, none⟩ (.int .i64 t152)).setCell ⟨gb155, 3, none⟩ (.bool t153)).setCell ⟨gb147, 0, none⟩ (.string t150)).setCell ⟨gb147, 1, none⟩ (.string t151)).setCell ⟨gb147, 2, none⟩ (.int .i64 t152)).setCell ⟨gb147, 3, none⟩ (.bool t153)).heap[gb155]? = some (.cells #[.string t150, .string t151, .int .i64 t152, .bool t153] 60 (0, 0))) := ⟨by (with_reducible repeat (first | refine blk_drewN ?_ _ | refine blk_drew ?_ | refine blk_alloc ?_ _)); refine blk_far ?_ NB155_147.out _; (with_reducible repeat (first | refine blk_drewN ?_ _ | refine blk_drew ?_ | refine blk_alloc ?_ _)); refine blk_far ?_ NB155_147.out _; (with_reducible repeat (first | refine blk_drewN ?_ _ | refine blk_drew ?_ | refine blk_alloc ?_ _)); refine blk_far ?_ NB155_147.out _; (with_reducible repeat (first | refine blk_drewN ?_ _ | refine blk_drew ?_ | refine blk_alloc ?_ _)); refine blk_far ?_ NB155_147.out _; (with_reducible repeat (first | refine blk_drewN ?_ _ | refine blk_drew ?_ | refine blk_alloc ?_ _)); refine blk_put (cs := #[.string t150, .string t151, .int .i64 t152, .bool false]) ?_ 3 _ rfl; (with_reducible repeat (first | refine blk_drewN ?_ _ | refine blk_drew ?_ | refine blk_alloc ?_ _)); refine blk_put (cs := #[.string t150, .string t151, .int .i64 0, .bool false]) ?_ 2 _ rfl; (with_reducible repeat (first | refine blk_drewN ?_ _ | refine blk_drew ?_ | refine blk_alloc ?_ _)); refine blk_put (cs := #[.string t150, .string (⟨#[]⟩ : ByteArray), .int .i64 0, .bool false]) ?_ 1 _ rfl; (with_reducible repeat (first | refine blk_drewN ?_ _ | refine blk_drew ?_ | refine blk_alloc ?_ _)); refine blk_put (cs := #[.string (⟨#[]⟩ : ByteArray), .string (⟨#[]⟩ : ByteArray), .int .i64 0, .bool false]) ?_ 0 _ rfl; (with_reducible repeat (first | refine blk_drewN ?_ _ | refine blk_drew ?_ | refine blk_alloc ?_ _)); exact BK155.out⟩
                    have n5_ : Aside0 (Below w.heap.size w ((((((((w21.setCell ⟨gb155, 0, none⟩ (.string t150)).setCell ⟨gb155, 1, none⟩ (.string t151)).setCell ⟨gb155, 2, none⟩ (.int .i64 t152)).setCell ⟨gb155, 3, none⟩ (.bool t153)).setCell ⟨gb147, 0, none⟩ (.string t150)).setCell ⟨gb147, 1, none⟩ (.string t151)).setCell ⟨gb147, 2, none⟩ (.int .i64 t152)).setCell ⟨gb147, 3, none⟩ (.bool t153))) := ⟨by repeat (first | (with_reducible first | exact HB.out | apply below_alloc | apply pw_below_drewN | apply below_drew1 | refine below_set ?_ GE147.out | refine below_set ?_ GE149.out | refine below_set ?_ GE155.out) | exact HB.out)⟩
                    (try clear HO_5)
                    (try clear HO_6)
                    (try clear BK147)
                    (try clear BK149)
                    (try clear BK155)
                    (try clear HB)
                    generalize ((((((((w21.setCell ⟨gb155, 0, none⟩ (.string t150)).setCell ⟨gb155, 1, none⟩ (.string t151)).setCell ⟨gb155, 2, none⟩ (.int .i64 t152)).setCell ⟨gb155, 3, none⟩ (.bool t153)).setCell ⟨gb147, 0, none⟩ (.string t150)).setCell ⟨gb147, 1, none⟩ (.string t151)).setCell ⟨gb147, 2, none⟩ (.int .i64 t152)).setCell ⟨gb147, 3, none⟩ (.bool t153)) = w27 at n0_ n1_ n2_ n3_ n4_ n5_ ⊢
                    have HO_5 := n0_
                    have HO_6 := n1_
                    have BK147 := n2_
                    have BK149 := n3_
                    have BK155 := n4_
                    have HB := n5_
                    clear n0_ n1_ n2_ n3_ n4_ n5_
                    have n0_ := Aside0.mk (Kd.R_drew HO_5.out)
                    have n1_ := Aside0.mk (Kd.R_drew HO_6.out)
                    have n2_ := Aside0.mk (blk_drew BK147.out)
                    have n3_ := Aside0.mk (blk_drew BK149.out)
                    have n4_ := Aside0.mk (blk_drew BK155.out)
                    have n5_ := Aside0.mk (below_drew1 HB.out)
                    clear HO_5
                    clear HO_6
                    clear BK147
                    clear BK149
                    clear BK155
                    clear HB
                    have HO_5 := n0_
                    have HO_6 := n1_
                    have BK147 := n2_
                    have BK149 := n3_
                    have BK155 := n4_
                    have HB := n5_
                    clear n0_ n1_ n2_ n3_ n4_ n5_
                    refine start_ (n := 8) (S := fun w' => w'.cell? ⟨gb149, 0, none⟩ = some (.int .i64 ((rd_T76 l0 x7_1).f0)) ∧ w'.cell? ⟨gb149, 1, none⟩ = some (.int .i64 ((rd_T76 l0 x7_1).f1)) ∧ w'.cell? ⟨gb149, 2, none⟩ = some (.string ((rd_T76 l0 x7_1).f2))) (ds := []) #[false, false, false, false, false, false, false, false] (by kernel_rfl) rfl rfl ⟨(blk_cell BK149.out 0).trans rfl, (blk_cell BK149.out 1).trans rfl, (blk_cell BK149.out 2).trans rfl⟩ (fun hHeld => ?_); refine with_tabW selvedgelaw17_PaperLasts.tab14 selvedgelaw17_PaperLasts.bits14 (fun HT_ HW_ => ?_)
                    generalize w27.drew = w28 at HO_5 HO_6 BK147 BK149 BK155 HB hHeld ⊢
                    refine pure_ (i := 1) (N := some 42) (v := ?_) (a' := ?_) #[false, true, false, false, false, false, false, false] rfl rfl (any_of HT_.out (by kernel_rfl)) (fun _ _ _ h => h) (Or.inl ⟨by rfl, ?_⟩) ?_ ?_
                    rotate_left
                    · intro w'
                      go_simp
                      with_reducible rfl
                    rotate_left
                    · simp only [Act.put, List.setIfInBounds_toArray, List.set_cons_zero, List.set_cons_succ, i64_w, i32_w]
                      rfl
                    refine pure_ (i := 3) (N := some 44) (v := ?_) (a' := ?_) #[false, true, false, true, false, false, false, false] rfl rfl (any_of HT_.out (by kernel_rfl)) (fun _ _ _ h => h) (Or.inl ⟨by rfl, ?_⟩) ?_ ?_
                    rotate_left
                    · intro w'
                      go_simp
                      with_reducible rfl
                    rotate_left
                    · simp only [Act.put, List.setIfInBounds_toArray, List.set_cons_zero, List.set_cons_succ, i64_w, i32_w]
                      rfl
                    refine take_ (i := 4) (N := some 45) (v := ?_) (a' := ?_) #[false, true, false, true, true, false, false, false] rfl rfl (take_ofW HT_.out HW_.out (by kernel_rfl)) (fun _ _ _ h => h) (Or.inl ⟨by rfl, ?_⟩) hHeld ?_ ?_
                    rotate_left
                    · rintro w' ⟨s0, s1, s2⟩
                      go_simp
                      with_reducible rfl
                    rotate_left
                    · simp only [Act.put, List.setIfInBounds_toArray, List.set_cons_zero, List.set_cons_succ, i64_w, i32_w]
                      rfl
                    refine join_ (σ := Value × Value × Value) 2 #[true, true, true, true, true, true, false, false] (fun s_ => [(41, s_.1), (43, s_.2.1), (46, s_.2.2)]) (fun s_ w' => (w'.cell? ⟨gb149, 0, none⟩ = some (.int .i64 ((rd_T76 l0 x7_1).f0)) ∧ w'.cell? ⟨gb149, 1, none⟩ = some (.int .i64 ((rd_T76 l0 x7_1).f1)) ∧ w'.cell? ⟨gb149, 2, none⟩ = some (.string ((rd_T76 l0 x7_1).f2))) ∧ (Kd.R Kd.string 9 w' w.heap.size (fun k_ => some k_ ≠ (s_.2.2 : Value).ownBlock ∧ some k_ ≠ (u5 : Value).ownBlock ∧ some k_ ≠ (.slice Ao26 x6_1.length co26 : Value).ownBlock) s_.2.1 y159) ∧ (Kd.R Kd.string 9 w' w.heap.size (fun k_ => some k_ ≠ (s_.2.1 : Value).ownBlock ∧ some k_ ≠ (u5 : Value).ownBlock ∧ some k_ ≠ (.slice Ao26 x6_1.length co26 : Value).ownBlock) s_.2.2 y162) ∧ (Kd.R Kd.string 9 w' w.heap.size (fun k_ => some k_ ≠ (s_.2.1 : Value).ownBlock ∧ some k_ ≠ (s_.2.2 : Value).ownBlock ∧ True) u5 x5_1) ∧ (Kd.R Kd.string 9 w' w.heap.size (fun k_ => some k_ ≠ (s_.2.1 : Value).ownBlock ∧ some k_ ≠ (s_.2.2 : Value).ownBlock ∧ True) (.slice Ao26 x6_1.length co26) x6_1) ∧ (w'.heap[gb147]? = some (.cells #[.string t150, .string t151, .int .i64 t152, .bool t153] 60 (0, 0))) ∧ (w'.heap[gb149]? = some (.cells #[.int .i64 ((rd_T76 l0 x7_1).f0), .int .i64 ((rd_T76 l0 x7_1).f1), .string ((rd_T76 l0 x7_1).f2)] 76 (0, 0))) ∧ (w'.heap[gb155]? = some (.cells #[.string t150, .string t151, .int .i64 t152, .bool t153] 60 (0, 0))) ∧ (Below w.heap.size w w')) ?_ ?_
                    rotate_left
                    · intro hCont
                      refine two_ (i := 0) (j := 5) (Ni := some 41) (Nj := some 46) #[true, true, false, true, true, false, false, false] #[false, true, false, true, true, true, false, false] rfl rfl rfl rfl (two_of HT_.out (by kernel_rfl)) (by decide) (by decide) (fun K hK => ?_) (fun K hK => ?_)
                      · skip
                        refine Kd.R_lit_step Kd.string _ 9 ?hg (N := 41) ?hd (xs := ([] : List ByteArray)) (inner := []) (ok := fun _ => True) (okp := fun _ => True) ?hr ?hp (fun _ hk => hk) trivial (Below.refl _ _) (Nat.le_refl _) (by simp) ?_; (case hd => rfl); (case hg => rfl); (case hr => first | (go_simp; done) | (go_simp; rfl)); (case hp => exact (Reps.none _ _))
                        intro v157 w29 ho30 hb hg_ hnew_
                        clear hg_ hnew_
                        (first | rw [← Ny156.out] at ho30 | (simp only [Int.reduceToNat] at ho30; rw [← Ny156.out] at ho30))
                        have n0_ := Aside0.mk (Kd.R_elder' (by (with_reducible repeat (first | apply Kd.R_alloc | apply Kd.R_drewN | apply Kd.R_drew)); exact HO_5.out) (Kd.R_base ho30) hb)
                        have n1_ := Aside0.mk (Kd.R_elder' (by (with_reducible repeat (first | apply Kd.R_alloc | apply Kd.R_drewN | apply Kd.R_drew)); exact HO_6.out) (Kd.R_base ho30) hb)
                        have n2_ := Aside0.mk (Kd.R_lower (Kd.R_new' (Kd.R_new' ho30 (Kd.R_lt (by (with_reducible repeat (first | apply Kd.R_alloc | apply Kd.R_drewN | apply Kd.R_drew)); exact HO_5.out))) (Kd.R_lt (by (with_reducible repeat (first | apply Kd.R_alloc | apply Kd.R_drewN | apply Kd.R_drew)); exact HO_6.out))) (below_size (by repeat (first | (with_reducible first | exact HB.out | apply below_alloc | apply pw_below_drewN | apply below_drew1 | refine below_set ?_ GE147.out | refine below_set ?_ GE149.out | refine below_set ?_ GE155.out) | exact HB.out))))
                        have n3_ := Aside0.mk (blk_below (g := gb147) (o := .cells #[.string t150, .string t151, .int .i64 t152, .bool t153] 60 (0, 0)) (by (with_reducible repeat (first | refine blk_drewN ?_ _ | refine blk_drew ?_ | refine blk_alloc ?_ _)); exact BK147.out) hb)
                        have n4_ := Aside0.mk (blk_below (g := gb149) (o := .cells #[.int .i64 ((rd_T76 l0 x7_1).f0), .int .i64 ((rd_T76 l0 x7_1).f1), .string ((rd_T76 l0 x7_1).f2)] 76 (0, 0)) (by (with_reducible repeat (first | refine blk_drewN ?_ _ | refine blk_drew ?_ | refine blk_alloc ?_ _)); exact BK149.out) hb)
                        have n5_ := Aside0.mk (blk_below (g := gb155) (o := .cells #[.string t150, .string t151, .int .i64 t152, .bool t153] 60 (0, 0)) (by (with_reducible repeat (first | refine blk_drewN ?_ _ | refine blk_drew ?_ | refine blk_alloc ?_ _)); exact BK155.out) hb)
                        have n6_ := Aside0.mk (below_step (by repeat (first | (with_reducible first | exact HB.out | apply below_alloc | apply pw_below_drewN | apply below_drew1 | refine below_set ?_ GE147.out | refine below_set ?_ GE149.out | refine below_set ?_ GE155.out) | exact HB.out)) hb)
                        clear HO_5
                        clear HO_6
                        clear BK147
                        clear BK149
                        clear BK155
                        clear HB
                        have HO_5 := n0_
                        have HO_6 := n1_
                        have HO158 := n2_
                        have BK147 := n3_
                        have BK149 := n4_
                        have BK155 := n5_
                        have HB := n6_
                        clear n0_ n1_ n2_ n3_ n4_ n5_ n6_
                        clear hb ho30
                        refine hK.out _ _ ⟨(blk_cell BK149.out 0).trans rfl, (blk_cell BK149.out 1).trans rfl, (blk_cell BK149.out 2).trans rfl⟩ (fun hHeld => ?_)
                        clear hK K
                        refine norm_ (a' := ?_) ?_ ?_
                        rotate_left
                        · show Act.put _ (some 41) _ = _
                          simp only [Act.put, List.setIfInBounds_toArray, List.set_cons_zero, List.set_cons_succ, i64_w, i32_w]
                          rfl
                        refine two_ (i := 2) (j := 5) (Ni := some 43) (Nj := some 46) #[true, true, true, true, true, false, false, false] #[true, true, false, true, true, true, false, false] rfl rfl rfl rfl (two_of HT_.out (by kernel_rfl)) (by decide) (by decide) (fun K hK => ?_) (fun K hK => ?_)
                        · skip
                          refine Kd.R_append_rows_step Kd.string (w0 := w) w.heap.size (by rfl) (.tmp 41) (.tmp 42) 22 9 (.string ⟨#[]⟩) 16 rfl Try.underlying22 info9 rfl (by decide) (by omega) v157 y156 x6_1 _ _ _ (fun k_ => some k_ ≠ (u5 : Value).ownBlock ∧ some k_ ≠ (.slice Ao26 x6_1.length co26 : Value).ownBlock) (fun _ => False) rfl rfl ?aO ?aR (fun _ _ h => h) (fun _ h => h.elim) ?aF ?aB ?aS ?aL ?_
                          (case aR => repeat (first | exact (Kd.R_reads' HO_6.out).2.2 | (with_reducible refine Kd.C_alloc ?_ _) | (with_reducible refine Kd.C_drewN ?_ _) | (with_reducible refine Kd.C_drew ?_)))
                          (case aB => exact (by repeat (first | (with_reducible first | exact HB.out | apply below_alloc | apply pw_below_drewN | apply below_drew1 | refine below_set ?_ GE147.out | refine below_set ?_ GE149.out | refine below_set ?_ GE155.out) | exact HB.out)))
                          (case aF => exact (fun k_ hk => ⟨Kd.fresh' (Kd.R_lt (by (with_reducible repeat (first | apply Kd.R_alloc | apply Kd.R_drewN | apply Kd.R_drew)); exact HO_5.out)) k_ hk, Kd.fresh' (Kd.R_lt (by (with_reducible repeat (first | apply Kd.R_alloc | apply Kd.R_drewN | apply Kd.R_drew)); exact HO_6.out)) k_ hk⟩))
                          (case aO => exact (by (with_reducible repeat (first | apply Kd.R_alloc | apply Kd.R_drewN | apply Kd.R_drew)); exact Kd.R_mono HO158.out (fun _ hk => ⟨hk.1.2, hk.2⟩)))
                          (case aS => exact (below_size (by repeat (first | (with_reducible first | exact HB.out | apply below_alloc | apply pw_below_drewN | apply below_drew1 | refine below_set ?_ GE147.out | refine below_set ?_ GE149.out | refine below_set ?_ GE155.out) | exact HB.out))))
                          (case aL => have := LMc15.out; omega)
                          intro v160 w31 ho hb hg hat
                          rw [← Ny159.out] at ho
                          have n0_ := Aside0.mk (Kd.R_after (ok := (fun k_ => True)) (by (with_reducible repeat (first | apply Kd.R_alloc | apply Kd.R_drewN | apply Kd.R_drew)); exact HO_5.out) hg hat)
                          have n1_ := Aside0.mk (Kd.R_after (ok := (fun k_ => True)) (by (with_reducible repeat (first | apply Kd.R_alloc | apply Kd.R_drewN | apply Kd.R_drew)); exact HO_6.out) hg hat)
                          have n2_ := Aside0.mk (blk_grown (g := gb147) (o := .cells #[.string t150, .string t151, .int .i64 t152, .bool t153] 60 (0, 0)) (by (with_reducible repeat (first | refine blk_drewN ?_ _ | refine blk_drew ?_ | refine blk_alloc ?_ _)); exact BK147.out) hg (Kd.R_ne HO158.out BK147.out (by decide)))
                          have n3_ := Aside0.mk (blk_grown (g := gb149) (o := .cells #[.int .i64 ((rd_T76 l0 x7_1).f0), .int .i64 ((rd_T76 l0 x7_1).f1), .string ((rd_T76 l0 x7_1).f2)] 76 (0, 0)) (by (with_reducible repeat (first | refine blk_drewN ?_ _ | refine blk_drew ?_ | refine blk_alloc ?_ _)); exact BK149.out) hg (Kd.R_ne HO158.out BK149.out (by decide)))
                          have n4_ := Aside0.mk (blk_grown (g := gb155) (o := .cells #[.string t150, .string t151, .int .i64 t152, .bool t153] 60 (0, 0)) (by (with_reducible repeat (first | refine blk_drewN ?_ _ | refine blk_drew ?_ | refine blk_alloc ?_ _)); exact BK155.out) hg (Kd.R_ne HO158.out BK155.out (by decide)))
                          have n5_ := Aside0.mk (hb)
                          have n6_ := Aside0.mk (ho)
                          clear HO_5
                          clear HO_6
                          clear BK147
                          clear BK149
                          clear BK155
                          clear HB
                          clear HO158
                          have HO_5 := n0_
                          have HO_6 := n1_
                          have BK147 := n2_
                          have BK149 := n3_
                          have BK155 := n4_
                          have HB := n5_
                          have HO161 := n6_
                          clear n0_ n1_ n2_ n3_ n4_ n5_ n6_
                          clear ho hb hg hat
                          refine hK.out _ _ ⟨(blk_cell BK149.out 0).trans rfl, (blk_cell BK149.out 1).trans rfl, (blk_cell BK149.out 2).trans rfl⟩ (fun hHeld => ?_)
                          clear hK K
                          refine norm_ (a' := ?_) ?_ ?_
                          rotate_left
                          · show Act.put _ (some 43) _ = _
                            simp only [Act.put, List.setIfInBounds_toArray, List.set_cons_zero, List.set_cons_succ, i64_w, i32_w]
                            rfl
                          refine one_ (i := 5) (N := some 46) #[true, true, true, true, true, true, false, false] rfl rfl (one_of HT_.out (by kernel_rfl)) (by decide) (fun K hK => ?_)
                          refine Kd.R_lit_step Kd.string _ 9 ?hg (N := 46) ?hd (xs := ([(rd_T76 l0 x7_1).f2] : List ByteArray)) (inner := [.string ((rd_T76 l0 x7_1).f2)]) (ok := fun _ => True) (okp := fun _ => True) ?hr ?hp (fun _ hk => hk) trivial (Below.refl _ _) (Nat.le_refl _) (by simp) ?_; (case hd => rfl); (case hg => rfl); (case hr => first | (go_simp; done) | (go_simp; rfl)); (case hp => exact (Reps.one (show Kd.M Kd.string _ _ _ ((rd_T76 l0 x7_1).f2) [.string ((rd_T76 l0 x7_1).f2)] from rfl) (Reps.none _ _)))
                          intro v163 w32 ho33 hb hg_ hnew_
                          clear hg_ hnew_
                          (first | rw [← Ny162.out] at ho33 | (simp only [Int.reduceToNat] at ho33; rw [← Ny162.out] at ho33))
                          have n0_ := Aside0.mk (Kd.R_elder' (by (with_reducible repeat (first | apply Kd.R_alloc | apply Kd.R_drewN | apply Kd.R_drew)); exact HO_5.out) (Kd.R_base ho33) hb)
                          have n1_ := Aside0.mk (Kd.R_elder' (by (with_reducible repeat (first | apply Kd.R_alloc | apply Kd.R_drewN | apply Kd.R_drew)); exact HO_6.out) (Kd.R_base ho33) hb)
                          have n2_ := Aside0.mk (Kd.R_elder' (by (with_reducible repeat (first | apply Kd.R_alloc | apply Kd.R_drewN | apply Kd.R_drew)); exact HO161.out) (Kd.R_base ho33) hb)
                          have n3_ := Aside0.mk (Kd.R_lower (Kd.R_new' (Kd.R_new' (Kd.R_new' ho33 (Kd.R_lt (by (with_reducible repeat (first | apply Kd.R_alloc | apply Kd.R_drewN | apply Kd.R_drew)); exact HO_5.out))) (Kd.R_lt (by (with_reducible repeat (first | apply Kd.R_alloc | apply Kd.R_drewN | apply Kd.R_drew)); exact HO_6.out))) (Kd.R_lt (by (with_reducible repeat (first | apply Kd.R_alloc | apply Kd.R_drewN | apply Kd.R_drew)); exact HO161.out))) (below_size (by repeat (first | (with_reducible first | exact HB.out | apply below_alloc | apply pw_below_drewN | apply below_drew1 | refine below_set ?_ GE147.out | refine below_set ?_ GE149.out | refine below_set ?_ GE155.out) | exact HB.out))))
                          have n4_ := Aside0.mk (blk_below (g := gb147) (o := .cells #[.string t150, .string t151, .int .i64 t152, .bool t153] 60 (0, 0)) (by (with_reducible repeat (first | refine blk_drewN ?_ _ | refine blk_drew ?_ | refine blk_alloc ?_ _)); exact BK147.out) hb)
                          have n5_ := Aside0.mk (blk_below (g := gb149) (o := .cells #[.int .i64 ((rd_T76 l0 x7_1).f0), .int .i64 ((rd_T76 l0 x7_1).f1), .string ((rd_T76 l0 x7_1).f2)] 76 (0, 0)) (by (with_reducible repeat (first | refine blk_drewN ?_ _ | refine blk_drew ?_ | refine blk_alloc ?_ _)); exact BK149.out) hb)
                          have n6_ := Aside0.mk (blk_below (g := gb155) (o := .cells #[.string t150, .string t151, .int .i64 t152, .bool t153] 60 (0, 0)) (by (with_reducible repeat (first | refine blk_drewN ?_ _ | refine blk_drew ?_ | refine blk_alloc ?_ _)); exact BK155.out) hb)
                          have n7_ := Aside0.mk (below_step (by repeat (first | (with_reducible first | exact HB.out | apply below_alloc | apply pw_below_drewN | apply below_drew1 | refine below_set ?_ GE147.out | refine below_set ?_ GE149.out | refine below_set ?_ GE155.out) | exact HB.out)) hb)
                          clear HO_5
                          clear HO_6
                          clear HO161
                          clear BK147
                          clear BK149
                          clear BK155
                          clear HB
                          have HO_5 := n0_
                          have HO_6 := n1_
                          have HO161 := n2_
                          have HO164 := n3_
                          have BK147 := n4_
                          have BK149 := n5_
                          have BK155 := n6_
                          have HB := n7_
                          clear n0_ n1_ n2_ n3_ n4_ n5_ n6_ n7_
                          clear hb ho33
                          refine hK.out _ _ ⟨(blk_cell BK149.out 0).trans rfl, (blk_cell BK149.out 1).trans rfl, (blk_cell BK149.out 2).trans rfl⟩ (fun hHeld => ?_)
                          clear hK K
                          refine norm_ (a' := ?_) ?_ ?_
                          rotate_left
                          · show Act.put _ (some 46) _ = _
                            simp only [Act.put, List.setIfInBounds_toArray, List.set_cons_zero, List.set_cons_succ, i64_w, i32_w]
                            rfl
                          exact norm_ (by simp only [putAll, Act.put, List.setIfInBounds_toArray, List.set_cons_zero, List.set_cons_succ]) (hCont (v157, v160, v163) _ ⟨hHeld, (by (with_reducible repeat (first | apply Kd.R_alloc | apply Kd.R_drewN | apply Kd.R_drew)); exact Kd.R_mono HO161.out (fun _ hk => ⟨hk.2, ⟨hk.1.1, hk.1.2⟩⟩)), (by (with_reducible repeat (first | apply Kd.R_alloc | apply Kd.R_drewN | apply Kd.R_drew)); exact Kd.R_mono HO164.out (fun _ hk => ⟨hk.2, ⟨hk.1.1.2, hk.1.2⟩⟩)), (by (with_reducible repeat (first | apply Kd.R_alloc | apply Kd.R_drewN | apply Kd.R_drew)); exact Kd.R_mono HO_5.out (fun _ hk => ⟨hk.1.2, ⟨hk.2, hk.1.1⟩⟩)), (by (with_reducible repeat (first | apply Kd.R_alloc | apply Kd.R_drewN | apply Kd.R_drew)); exact Kd.R_mono HO_6.out (fun _ hk => ⟨hk.1.2, ⟨hk.2, hk.1.1⟩⟩)), (by (with_reducible repeat (first | refine blk_drewN ?_ _ | refine blk_drew ?_ | refine blk_alloc ?_ _)); exact BK147.out), (by (with_reducible repeat (first | refine blk_drewN ?_ _ | refine blk_drew ?_ | refine blk_alloc ?_ _)); exact BK149.out), (by (with_reducible repeat (first | refine blk_drewN ?_ _ | refine blk_drew ?_ | refine blk_alloc ?_ _)); exact BK155.out), (by repeat (first | (with_reducible first | exact HB.out | apply below_alloc | apply pw_below_drewN | apply below_drew1 | refine below_set ?_ GE147.out | refine below_set ?_ GE149.out | refine below_set ?_ GE155.out) | exact HB.out))⟩)
                        · skip
                          refine Kd.R_lit_step Kd.string _ 9 ?hg (N := 46) ?hd (xs := ([(rd_T76 l0 x7_1).f2] : List ByteArray)) (inner := [.string ((rd_T76 l0 x7_1).f2)]) (ok := fun _ => True) (okp := fun _ => True) ?hr ?hp (fun _ hk => hk) trivial (Below.refl _ _) (Nat.le_refl _) (by simp) ?_; (case hd => rfl); (case hg => rfl); (case hr => first | (go_simp; done) | (go_simp; rfl)); (case hp => exact (Reps.one (show Kd.M Kd.string _ _ _ ((rd_T76 l0 x7_1).f2) [.string ((rd_T76 l0 x7_1).f2)] from rfl) (Reps.none _ _)))
                          intro v163 w31 ho32 hb hg_ hnew_
                          clear hg_ hnew_
                          (first | rw [← Ny162.out] at ho32 | (simp only [Int.reduceToNat] at ho32; rw [← Ny162.out] at ho32))
                          have n0_ := Aside0.mk (Kd.R_elder' (by (with_reducible repeat (first | apply Kd.R_alloc | apply Kd.R_drewN | apply Kd.R_drew)); exact HO_5.out) (Kd.R_base ho32) hb)
                          have n1_ := Aside0.mk (Kd.R_elder' (by (with_reducible repeat (first | apply Kd.R_alloc | apply Kd.R_drewN | apply Kd.R_drew)); exact HO_6.out) (Kd.R_base ho32) hb)
                          have n2_ := Aside0.mk (Kd.R_elder' (by (with_reducible repeat (first | apply Kd.R_alloc | apply Kd.R_drewN | apply Kd.R_drew)); exact HO158.out) (Kd.R_base ho32) hb)
                          have n3_ := Aside0.mk (Kd.R_lower (Kd.R_new' (Kd.R_new' (Kd.R_new' ho32 (Kd.R_lt (by (with_reducible repeat (first | apply Kd.R_alloc | apply Kd.R_drewN | apply Kd.R_drew)); exact HO_5.out))) (Kd.R_lt (by (with_reducible repeat (first | apply Kd.R_alloc | apply Kd.R_drewN | apply Kd.R_drew)); exact HO_6.out))) (Kd.R_lt (by (with_reducible repeat (first | apply Kd.R_alloc | apply Kd.R_drewN | apply Kd.R_drew)); exact HO158.out))) (below_size (by repeat (first | (with_reducible first | exact HB.out | apply below_alloc | apply pw_below_drewN | apply below_drew1 | refine below_set ?_ GE147.out | refine below_set ?_ GE149.out | refine below_set ?_ GE155.out) | exact HB.out))))
                          have n4_ := Aside0.mk (blk_below (g := gb147) (o := .cells #[.string t150, .string t151, .int .i64 t152, .bool t153] 60 (0, 0)) (by (with_reducible repeat (first | refine blk_drewN ?_ _ | refine blk_drew ?_ | refine blk_alloc ?_ _)); exact BK147.out) hb)
                          have n5_ := Aside0.mk (blk_below (g := gb149) (o := .cells #[.int .i64 ((rd_T76 l0 x7_1).f0), .int .i64 ((rd_T76 l0 x7_1).f1), .string ((rd_T76 l0 x7_1).f2)] 76 (0, 0)) (by (with_reducible repeat (first | refine blk_drewN ?_ _ | refine blk_drew ?_ | refine blk_alloc ?_ _)); exact BK149.out) hb)
                          have n6_ := Aside0.mk (blk_below (g := gb155) (o := .cells #[.string t150, .string t151, .int .i64 t152, .bool t153] 60 (0, 0)) (by (with_reducible repeat (first | refine blk_drewN ?_ _ | refine blk_drew ?_ | refine blk_alloc ?_ _)); exact BK155.out) hb)
                          have n7_ := Aside0.mk (below_step (by repeat (first | (with_reducible first | exact HB.out | apply below_alloc | apply pw_below_drewN | apply below_drew1 | refine below_set ?_ GE147.out | refine below_set ?_ GE149.out | refine below_set ?_ GE155.out) | exact HB.out)) hb)
                          clear HO_5
                          clear HO_6
                          clear HO158
                          clear BK147
                          clear BK149
                          clear BK155
                          clear HB
                          have HO_5 := n0_
                          have HO_6 := n1_
                          have HO158 := n2_
                          have HO164 := n3_
                          have BK147 := n4_
                          have BK149 := n5_
                          have BK155 := n6_
                          have HB := n7_
                          clear n0_ n1_ n2_ n3_ n4_ n5_ n6_ n7_
                          clear hb ho32
                          refine hK.out _ _ ⟨(blk_cell BK149.out 0).trans rfl, (blk_cell BK149.out 1).trans rfl, (blk_cell BK149.out 2).trans rfl⟩ (fun hHeld => ?_)
                          clear hK K
                          refine norm_ (a' := ?_) ?_ ?_
                          rotate_left
                          · show Act.put _ (some 46) _ = _
                            simp only [Act.put, List.setIfInBounds_toArray, List.set_cons_zero, List.set_cons_succ, i64_w, i32_w]
                            rfl
                          refine one_ (i := 2) (N := some 43) #[true, true, true, true, true, true, false, false] rfl rfl (one_of HT_.out (by kernel_rfl)) (by decide) (fun K hK => ?_)
                          refine Kd.R_append_rows_step Kd.string (w0 := w) w.heap.size (by rfl) (.tmp 41) (.tmp 42) 22 9 (.string ⟨#[]⟩) 16 rfl Try.underlying22 info9 rfl (by decide) (by omega) v157 y156 x6_1 _ _ _ (fun k_ => some k_ ≠ (u5 : Value).ownBlock ∧ some k_ ≠ (.slice Ao26 x6_1.length co26 : Value).ownBlock ∧ some k_ ≠ (v163 : Value).ownBlock) (fun _ => False) rfl rfl ?aO ?aR (fun _ _ h => h) (fun _ h => h.elim) ?aF ?aB ?aS ?aL ?_
                          (case aR => repeat (first | exact (Kd.R_reads' HO_6.out).2.2 | (with_reducible refine Kd.C_alloc ?_ _) | (with_reducible refine Kd.C_drewN ?_ _) | (with_reducible refine Kd.C_drew ?_)))
                          (case aB => exact (by repeat (first | (with_reducible first | exact HB.out | apply below_alloc | apply pw_below_drewN | apply below_drew1 | refine below_set ?_ GE147.out | refine below_set ?_ GE149.out | refine below_set ?_ GE155.out) | exact HB.out)))
                          (case aF => exact (fun k_ hk => ⟨Kd.fresh' (Kd.R_lt (by (with_reducible repeat (first | apply Kd.R_alloc | apply Kd.R_drewN | apply Kd.R_drew)); exact HO_5.out)) k_ hk, Kd.fresh' (Kd.R_lt (by (with_reducible repeat (first | apply Kd.R_alloc | apply Kd.R_drewN | apply Kd.R_drew)); exact HO_6.out)) k_ hk, Kd.fresh' (Kd.R_lt (by (with_reducible repeat (first | apply Kd.R_alloc | apply Kd.R_drewN | apply Kd.R_drew)); exact HO164.out)) k_ hk⟩))
                          (case aO => exact (by (with_reducible repeat (first | apply Kd.R_alloc | apply Kd.R_drewN | apply Kd.R_drew)); exact Kd.R_mono HO158.out (fun _ hk => ⟨hk.1.1.2, ⟨hk.1.2, hk.2⟩⟩)))
                          (case aS => exact (below_size (by repeat (first | (with_reducible first | exact HB.out | apply below_alloc | apply pw_below_drewN | apply below_drew1 | refine below_set ?_ GE147.out | refine below_set ?_ GE149.out | refine below_set ?_ GE155.out) | exact HB.out))))
                          (case aL => have := LMc15.out; omega)
                          intro v160 w33 ho hb hg hat
                          rw [← Ny159.out] at ho
                          have n0_ := Aside0.mk (Kd.R_after (ok := (fun k_ => True ∧ some k_ ≠ (v163 : Value).ownBlock)) (by (with_reducible repeat (first | apply Kd.R_alloc | apply Kd.R_drewN | apply Kd.R_drew)); exact Kd.R_mono HO_5.out (fun _ hk => ⟨⟨hk.1.1, hk.2⟩, hk.1.2⟩)) hg hat)
                          have n1_ := Aside0.mk (Kd.R_after (ok := (fun k_ => True ∧ some k_ ≠ (v163 : Value).ownBlock)) (by (with_reducible repeat (first | apply Kd.R_alloc | apply Kd.R_drewN | apply Kd.R_drew)); exact Kd.R_mono HO_6.out (fun _ hk => ⟨⟨hk.1.1, hk.2⟩, hk.1.2⟩)) hg hat)
                          have n2_ := Aside0.mk (blk_grown (g := gb147) (o := .cells #[.string t150, .string t151, .int .i64 t152, .bool t153] 60 (0, 0)) (by (with_reducible repeat (first | refine blk_drewN ?_ _ | refine blk_drew ?_ | refine blk_alloc ?_ _)); exact BK147.out) hg (Kd.R_ne HO158.out BK147.out (by decide)))
                          have n3_ := Aside0.mk (blk_grown (g := gb149) (o := .cells #[.int .i64 ((rd_T76 l0 x7_1).f0), .int .i64 ((rd_T76 l0 x7_1).f1), .string ((rd_T76 l0 x7_1).f2)] 76 (0, 0)) (by (with_reducible repeat (first | refine blk_drewN ?_ _ | refine blk_drew ?_ | refine blk_alloc ?_ _)); exact BK149.out) hg (Kd.R_ne HO158.out BK149.out (by decide)))
                          have n4_ := Aside0.mk (blk_grown (g := gb155) (o := .cells #[.string t150, .string t151, .int .i64 t152, .bool t153] 60 (0, 0)) (by (with_reducible repeat (first | refine blk_drewN ?_ _ | refine blk_drew ?_ | refine blk_alloc ?_ _)); exact BK155.out) hg (Kd.R_ne HO158.out BK155.out (by decide)))
                          have n5_ := Aside0.mk (Kd.R_after (ok := (fun k_ => some k_ ≠ (u5 : Value).ownBlock ∧ some k_ ≠ (.slice Ao26 x6_1.length co26 : Value).ownBlock)) (by (with_reducible repeat (first | apply Kd.R_alloc | apply Kd.R_drewN | apply Kd.R_drew)); exact Kd.R_mono HO164.out (fun _ hk => ⟨⟨hk.1.1.2, hk.1.2⟩, hk.2⟩)) hg hat)
                          have n6_ := Aside0.mk (hb)
                          have n7_ := Aside0.mk (ho)
                          clear HO_5
                          clear HO_6
                          clear BK147
                          clear BK149
                          clear BK155
                          clear HO164
                          clear HB
                          clear HO158
                          have HO_5 := n0_
                          have HO_6 := n1_
                          have BK147 := n2_
                          have BK149 := n3_
                          have BK155 := n4_
                          have HO164 := n5_
                          have HB := n6_
                          have HO161 := n7_
                          clear n0_ n1_ n2_ n3_ n4_ n5_ n6_ n7_
                          clear ho hb hg hat
                          refine hK.out _ _ ⟨(blk_cell BK149.out 0).trans rfl, (blk_cell BK149.out 1).trans rfl, (blk_cell BK149.out 2).trans rfl⟩ (fun hHeld => ?_)
                          clear hK K
                          refine norm_ (a' := ?_) ?_ ?_
                          rotate_left
                          · show Act.put _ (some 43) _ = _
                            simp only [Act.put, List.setIfInBounds_toArray, List.set_cons_zero, List.set_cons_succ, i64_w, i32_w]
                            rfl
                          exact norm_ (by simp only [putAll, Act.put, List.setIfInBounds_toArray, List.set_cons_zero, List.set_cons_succ]) (hCont (v157, v160, v163) _ ⟨hHeld, (by (with_reducible repeat (first | apply Kd.R_alloc | apply Kd.R_drewN | apply Kd.R_drew)); exact Kd.R_mono HO161.out (fun _ hk => ⟨hk.2.2, ⟨hk.1, hk.2.1⟩⟩)), (by (with_reducible repeat (first | apply Kd.R_alloc | apply Kd.R_drewN | apply Kd.R_drew)); exact Kd.R_mono HO164.out (fun _ hk => ⟨hk.2, ⟨hk.1.1, hk.1.2⟩⟩)), (by (with_reducible repeat (first | apply Kd.R_alloc | apply Kd.R_drewN | apply Kd.R_drew)); exact Kd.R_mono HO_5.out (fun _ hk => ⟨hk.2, ⟨hk.1.2, hk.1.1⟩⟩)), (by (with_reducible repeat (first | apply Kd.R_alloc | apply Kd.R_drewN | apply Kd.R_drew)); exact Kd.R_mono HO_6.out (fun _ hk => ⟨hk.2, ⟨hk.1.2, hk.1.1⟩⟩)), (by (with_reducible repeat (first | refine blk_drewN ?_ _ | refine blk_drew ?_ | refine blk_alloc ?_ _)); exact BK147.out), (by (with_reducible repeat (first | refine blk_drewN ?_ _ | refine blk_drew ?_ | refine blk_alloc ?_ _)); exact BK149.out), (by (with_reducible repeat (first | refine blk_drewN ?_ _ | refine blk_drew ?_ | refine blk_alloc ?_ _)); exact BK155.out), (by repeat (first | (with_reducible first | exact HB.out | apply below_alloc | apply pw_below_drewN | apply below_drew1 | refine below_set ?_ GE147.out | refine below_set ?_ GE149.out | refine below_set ?_ GE155.out) | exact HB.out))⟩)
                      · skip
                        refine Kd.R_lit_step Kd.string _ 9 ?hg (N := 46) ?hd (xs := ([(rd_T76 l0 x7_1).f2] : List ByteArray)) (inner := [.string ((rd_T76 l0 x7_1).f2)]) (ok := fun _ => True) (okp := fun _ => True) ?hr ?hp (fun _ hk => hk) trivial (Below.refl _ _) (Nat.le_refl _) (by simp) ?_; (case hd => rfl); (case hg => rfl); (case hr => first | (go_simp; done) | (go_simp; rfl)); (case hp => exact (Reps.one (show Kd.M Kd.string _ _ _ ((rd_T76 l0 x7_1).f2) [.string ((rd_T76 l0 x7_1).f2)] from rfl) (Reps.none _ _)))
                        intro v163 w29 ho30 hb hg_ hnew_
                        clear hg_ hnew_
                        (first | rw [← Ny162.out] at ho30 | (simp only [Int.reduceToNat] at ho30; rw [← Ny162.out] at ho30))
                        have n0_ := Aside0.mk (Kd.R_elder' (by (with_reducible repeat (first | apply Kd.R_alloc | apply Kd.R_drewN | apply Kd.R_drew)); exact HO_5.out) (Kd.R_base ho30) hb)
                        have n1_ := Aside0.mk (Kd.R_elder' (by (with_reducible repeat (first | apply Kd.R_alloc | apply Kd.R_drewN | apply Kd.R_drew)); exact HO_6.out) (Kd.R_base ho30) hb)
                        have n2_ := Aside0.mk (Kd.R_lower (Kd.R_new' (Kd.R_new' ho30 (Kd.R_lt (by (with_reducible repeat (first | apply Kd.R_alloc | apply Kd.R_drewN | apply Kd.R_drew)); exact HO_5.out))) (Kd.R_lt (by (with_reducible repeat (first | apply Kd.R_alloc | apply Kd.R_drewN | apply Kd.R_drew)); exact HO_6.out))) (below_size (by repeat (first | (with_reducible first | exact HB.out | apply below_alloc | apply pw_below_drewN | apply below_drew1 | refine below_set ?_ GE147.out | refine below_set ?_ GE149.out | refine below_set ?_ GE155.out) | exact HB.out))))
                        have n3_ := Aside0.mk (blk_below (g := gb147) (o := .cells #[.string t150, .string t151, .int .i64 t152, .bool t153] 60 (0, 0)) (by (with_reducible repeat (first | refine blk_drewN ?_ _ | refine blk_drew ?_ | refine blk_alloc ?_ _)); exact BK147.out) hb)
                        have n4_ := Aside0.mk (blk_below (g := gb149) (o := .cells #[.int .i64 ((rd_T76 l0 x7_1).f0), .int .i64 ((rd_T76 l0 x7_1).f1), .string ((rd_T76 l0 x7_1).f2)] 76 (0, 0)) (by (with_reducible repeat (first | refine blk_drewN ?_ _ | refine blk_drew ?_ | refine blk_alloc ?_ _)); exact BK149.out) hb)
                        have n5_ := Aside0.mk (blk_below (g := gb155) (o := .cells #[.string t150, .string t151, .int .i64 t152, .bool t153] 60 (0, 0)) (by (with_reducible repeat (first | refine blk_drewN ?_ _ | refine blk_drew ?_ | refine blk_alloc ?_ _)); exact BK155.out) hb)
                        have n6_ := Aside0.mk (below_step (by repeat (first | (with_reducible first | exact HB.out | apply below_alloc | apply pw_below_drewN | apply below_drew1 | refine below_set ?_ GE147.out | refine below_set ?_ GE149.out | refine below_set ?_ GE155.out) | exact HB.out)) hb)
                        clear HO_5
                        clear HO_6
                        clear BK147
                        clear BK149
                        clear BK155
                        clear HB
                        have HO_5 := n0_
                        have HO_6 := n1_
                        have HO164 := n2_
                        have BK147 := n3_
                        have BK149 := n4_
                        have BK155 := n5_
                        have HB := n6_
                        clear n0_ n1_ n2_ n3_ n4_ n5_ n6_
                        clear hb ho30
                        refine hK.out _ _ ⟨(blk_cell BK149.out 0).trans rfl, (blk_cell BK149.out 1).trans rfl, (blk_cell BK149.out 2).trans rfl⟩ (fun hHeld => ?_)
                        clear hK K
                        refine norm_ (a' := ?_) ?_ ?_
                        rotate_left
                        · show Act.put _ (some 46) _ = _
                          simp only [Act.put, List.setIfInBounds_toArray, List.set_cons_zero, List.set_cons_succ, i64_w, i32_w]
                          rfl
                        refine one_ (i := 0) (N := some 41) #[true, true, false, true, true, true, false, false] rfl rfl (one_of HT_.out (by kernel_rfl)) (by decide) (fun K hK => ?_)
                        refine Kd.R_lit_step Kd.string _ 9 ?hg (N := 41) ?hd (xs := ([] : List ByteArray)) (inner := []) (ok := fun _ => True) (okp := fun _ => True) ?hr ?hp (fun _ hk => hk) trivial (Below.refl _ _) (Nat.le_refl _) (by simp) ?_; (case hd => rfl); (case hg => rfl); (case hr => first | (go_simp; done) | (go_simp; rfl)); (case hp => exact (Reps.none _ _))
                        intro v157 w31 ho32 hb hg_ hnew_
                        clear hg_ hnew_
                        (first | rw [← Ny156.out] at ho32 | (simp only [Int.reduceToNat] at ho32; rw [← Ny156.out] at ho32))
                        have n0_ := Aside0.mk (Kd.R_elder' (by (with_reducible repeat (first | apply Kd.R_alloc | apply Kd.R_drewN | apply Kd.R_drew)); exact HO_5.out) (Kd.R_base ho32) hb)
                        have n1_ := Aside0.mk (Kd.R_elder' (by (with_reducible repeat (first | apply Kd.R_alloc | apply Kd.R_drewN | apply Kd.R_drew)); exact HO_6.out) (Kd.R_base ho32) hb)
                        have n2_ := Aside0.mk (Kd.R_elder' (by (with_reducible repeat (first | apply Kd.R_alloc | apply Kd.R_drewN | apply Kd.R_drew)); exact HO164.out) (Kd.R_base ho32) hb)
                        have n3_ := Aside0.mk (Kd.R_lower (Kd.R_new' (Kd.R_new' (Kd.R_new' ho32 (Kd.R_lt (by (with_reducible repeat (first | apply Kd.R_alloc | apply Kd.R_drewN | apply Kd.R_drew)); exact HO_5.out))) (Kd.R_lt (by (with_reducible repeat (first | apply Kd.R_alloc | apply Kd.R_drewN | apply Kd.R_drew)); exact HO_6.out))) (Kd.R_lt (by (with_reducible repeat (first | apply Kd.R_alloc | apply Kd.R_drewN | apply Kd.R_drew)); exact HO164.out))) (below_size (by repeat (first | (with_reducible first | exact HB.out | apply below_alloc | apply pw_below_drewN | apply below_drew1 | refine below_set ?_ GE147.out | refine below_set ?_ GE149.out | refine below_set ?_ GE155.out) | exact HB.out))))
                        have n4_ := Aside0.mk (blk_below (g := gb147) (o := .cells #[.string t150, .string t151, .int .i64 t152, .bool t153] 60 (0, 0)) (by (with_reducible repeat (first | refine blk_drewN ?_ _ | refine blk_drew ?_ | refine blk_alloc ?_ _)); exact BK147.out) hb)
                        have n5_ := Aside0.mk (blk_below (g := gb149) (o := .cells #[.int .i64 ((rd_T76 l0 x7_1).f0), .int .i64 ((rd_T76 l0 x7_1).f1), .string ((rd_T76 l0 x7_1).f2)] 76 (0, 0)) (by (with_reducible repeat (first | refine blk_drewN ?_ _ | refine blk_drew ?_ | refine blk_alloc ?_ _)); exact BK149.out) hb)
                        have n6_ := Aside0.mk (blk_below (g := gb155) (o := .cells #[.string t150, .string t151, .int .i64 t152, .bool t153] 60 (0, 0)) (by (with_reducible repeat (first | refine blk_drewN ?_ _ | refine blk_drew ?_ | refine blk_alloc ?_ _)); exact BK155.out) hb)
                        have n7_ := Aside0.mk (below_step (by repeat (first | (with_reducible first | exact HB.out | apply below_alloc | apply pw_below_drewN | apply below_drew1 | refine below_set ?_ GE147.out | refine below_set ?_ GE149.out | refine below_set ?_ GE155.out) | exact HB.out)) hb)
                        clear HO_5
                        clear HO_6
                        clear HO164
                        clear BK147
                        clear BK149
                        clear BK155
                        clear HB
                        have HO_5 := n0_
                        have HO_6 := n1_
                        have HO164 := n2_
                        have HO158 := n3_
                        have BK147 := n4_
                        have BK149 := n5_
                        have BK155 := n6_
                        have HB := n7_
                        clear n0_ n1_ n2_ n3_ n4_ n5_ n6_ n7_
                        clear hb ho32
                        refine hK.out _ _ ⟨(blk_cell BK149.out 0).trans rfl, (blk_cell BK149.out 1).trans rfl, (blk_cell BK149.out 2).trans rfl⟩ (fun hHeld => ?_)
                        clear hK K
                        refine norm_ (a' := ?_) ?_ ?_
                        rotate_left
                        · show Act.put _ (some 41) _ = _
                          simp only [Act.put, List.setIfInBounds_toArray, List.set_cons_zero, List.set_cons_succ, i64_w, i32_w]
                          rfl
                        refine one_ (i := 2) (N := some 43) #[true, true, true, true, true, true, false, false] rfl rfl (one_of HT_.out (by kernel_rfl)) (by decide) (fun K hK => ?_)
                        refine Kd.R_append_rows_step Kd.string (w0 := w) w.heap.size (by rfl) (.tmp 41) (.tmp 42) 22 9 (.string ⟨#[]⟩) 16 rfl Try.underlying22 info9 rfl (by decide) (by omega) v157 y156 x6_1 _ _ _ (fun k_ => some k_ ≠ (u5 : Value).ownBlock ∧ some k_ ≠ (.slice Ao26 x6_1.length co26 : Value).ownBlock ∧ some k_ ≠ (v163 : Value).ownBlock) (fun _ => False) rfl rfl ?aO ?aR (fun _ _ h => h) (fun _ h => h.elim) ?aF ?aB ?aS ?aL ?_
                        (case aR => repeat (first | exact (Kd.R_reads' HO_6.out).2.2 | (with_reducible refine Kd.C_alloc ?_ _) | (with_reducible refine Kd.C_drewN ?_ _) | (with_reducible refine Kd.C_drew ?_)))
                        (case aB => exact (by repeat (first | (with_reducible first | exact HB.out | apply below_alloc | apply pw_below_drewN | apply below_drew1 | refine below_set ?_ GE147.out | refine below_set ?_ GE149.out | refine below_set ?_ GE155.out) | exact HB.out)))
                        (case aF => exact (fun k_ hk => ⟨Kd.fresh' (Kd.R_lt (by (with_reducible repeat (first | apply Kd.R_alloc | apply Kd.R_drewN | apply Kd.R_drew)); exact HO_5.out)) k_ hk, Kd.fresh' (Kd.R_lt (by (with_reducible repeat (first | apply Kd.R_alloc | apply Kd.R_drewN | apply Kd.R_drew)); exact HO_6.out)) k_ hk, Kd.fresh' (Kd.R_lt (by (with_reducible repeat (first | apply Kd.R_alloc | apply Kd.R_drewN | apply Kd.R_drew)); exact HO164.out)) k_ hk⟩))
                        (case aO => exact (by (with_reducible repeat (first | apply Kd.R_alloc | apply Kd.R_drewN | apply Kd.R_drew)); exact Kd.R_mono HO158.out (fun _ hk => ⟨hk.1.1.2, ⟨hk.1.2, hk.2⟩⟩)))
                        (case aS => exact (below_size (by repeat (first | (with_reducible first | exact HB.out | apply below_alloc | apply pw_below_drewN | apply below_drew1 | refine below_set ?_ GE147.out | refine below_set ?_ GE149.out | refine below_set ?_ GE155.out) | exact HB.out))))
                        (case aL => have := LMc15.out; omega)
                        intro v160 w33 ho hb hg hat
                        rw [← Ny159.out] at ho
                        have n0_ := Aside0.mk (Kd.R_after (ok := (fun k_ => True ∧ some k_ ≠ (v163 : Value).ownBlock)) (by (with_reducible repeat (first | apply Kd.R_alloc | apply Kd.R_drewN | apply Kd.R_drew)); exact HO_5.out) hg hat)
                        have n1_ := Aside0.mk (Kd.R_after (ok := (fun k_ => True ∧ some k_ ≠ (v163 : Value).ownBlock)) (by (with_reducible repeat (first | apply Kd.R_alloc | apply Kd.R_drewN | apply Kd.R_drew)); exact HO_6.out) hg hat)
                        have n2_ := Aside0.mk (blk_grown (g := gb147) (o := .cells #[.string t150, .string t151, .int .i64 t152, .bool t153] 60 (0, 0)) (by (with_reducible repeat (first | refine blk_drewN ?_ _ | refine blk_drew ?_ | refine blk_alloc ?_ _)); exact BK147.out) hg (Kd.R_ne HO158.out BK147.out (by decide)))
                        have n3_ := Aside0.mk (blk_grown (g := gb149) (o := .cells #[.int .i64 ((rd_T76 l0 x7_1).f0), .int .i64 ((rd_T76 l0 x7_1).f1), .string ((rd_T76 l0 x7_1).f2)] 76 (0, 0)) (by (with_reducible repeat (first | refine blk_drewN ?_ _ | refine blk_drew ?_ | refine blk_alloc ?_ _)); exact BK149.out) hg (Kd.R_ne HO158.out BK149.out (by decide)))
                        have n4_ := Aside0.mk (blk_grown (g := gb155) (o := .cells #[.string t150, .string t151, .int .i64 t152, .bool t153] 60 (0, 0)) (by (with_reducible repeat (first | refine blk_drewN ?_ _ | refine blk_drew ?_ | refine blk_alloc ?_ _)); exact BK155.out) hg (Kd.R_ne HO158.out BK155.out (by decide)))
                        have n5_ := Aside0.mk (Kd.R_after (ok := (fun k_ => some k_ ≠ (u5 : Value).ownBlock ∧ some k_ ≠ (.slice Ao26 x6_1.length co26 : Value).ownBlock)) (by (with_reducible repeat (first | apply Kd.R_alloc | apply Kd.R_drewN | apply Kd.R_drew)); exact Kd.R_mono HO164.out (fun _ hk => ⟨⟨hk.1.1.2, hk.1.2⟩, hk.2⟩)) hg hat)
                        have n6_ := Aside0.mk (hb)
                        have n7_ := Aside0.mk (ho)
                        clear HO_5
                        clear HO_6
                        clear BK147
                        clear BK149
                        clear BK155
                        clear HO164
                        clear HB
                        clear HO158
                        have HO_5 := n0_
                        have HO_6 := n1_
                        have BK147 := n2_
                        have BK149 := n3_
                        have BK155 := n4_
                        have HO164 := n5_
                        have HB := n6_
                        have HO161 := n7_
                        clear n0_ n1_ n2_ n3_ n4_ n5_ n6_ n7_
                        clear ho hb hg hat
                        refine hK.out _ _ ⟨(blk_cell BK149.out 0).trans rfl, (blk_cell BK149.out 1).trans rfl, (blk_cell BK149.out 2).trans rfl⟩ (fun hHeld => ?_)
                        clear hK K
                        refine norm_ (a' := ?_) ?_ ?_
                        rotate_left
                        · show Act.put _ (some 43) _ = _
                          simp only [Act.put, List.setIfInBounds_toArray, List.set_cons_zero, List.set_cons_succ, i64_w, i32_w]
                          rfl
                        exact norm_ (by simp only [putAll, Act.put, List.setIfInBounds_toArray, List.set_cons_zero, List.set_cons_succ]) (hCont (v157, v160, v163) _ ⟨hHeld, (by (with_reducible repeat (first | apply Kd.R_alloc | apply Kd.R_drewN | apply Kd.R_drew)); exact Kd.R_mono HO161.out (fun _ hk => ⟨hk.2.2, ⟨hk.1, hk.2.1⟩⟩)), (by (with_reducible repeat (first | apply Kd.R_alloc | apply Kd.R_drewN | apply Kd.R_drew)); exact Kd.R_mono HO164.out (fun _ hk => ⟨hk.2, ⟨hk.1.1, hk.1.2⟩⟩)), (by (with_reducible repeat (first | apply Kd.R_alloc | apply Kd.R_drewN | apply Kd.R_drew)); exact Kd.R_mono HO_5.out (fun _ hk => ⟨hk.2, ⟨hk.1.2, hk.1.1⟩⟩)), (by (with_reducible repeat (first | apply Kd.R_alloc | apply Kd.R_drewN | apply Kd.R_drew)); exact Kd.R_mono HO_6.out (fun _ hk => ⟨hk.2, ⟨hk.1.2, hk.1.1⟩⟩)), (by (with_reducible repeat (first | refine blk_drewN ?_ _ | refine blk_drew ?_ | refine blk_alloc ?_ _)); exact BK147.out), (by (with_reducible repeat (first | refine blk_drewN ?_ _ | refine blk_drew ?_ | refine blk_alloc ?_ _)); exact BK149.out), (by (with_reducible repeat (first | refine blk_drewN ?_ _ | refine blk_drew ?_ | refine blk_alloc ?_ _)); exact BK155.out), (by repeat (first | (with_reducible first | exact HB.out | apply below_alloc | apply pw_below_drewN | apply below_drew1 | refine below_set ?_ GE147.out | refine below_set ?_ GE149.out | refine below_set ?_ GE155.out) | exact HB.out))⟩)
                    rintro ⟨v157, v160, v163⟩ w34 ⟨hS_, h0_, h1_, h2_, h3_, h4_, h5_, h6_, h7_⟩
                    have n0_ : Aside0 (Kd.R Kd.string 9 w34 w.heap.size (fun k_ => some k_ ≠ (v163 : Value).ownBlock ∧ some k_ ≠ (u5 : Value).ownBlock ∧ some k_ ≠ (.slice Ao26 x6_1.length co26 : Value).ownBlock) v160 y159) := ⟨h0_⟩
                    have n1_ : Aside0 (Kd.R Kd.string 9 w34 w.heap.size (fun k_ => some k_ ≠ (v160 : Value).ownBlock ∧ some k_ ≠ (u5 : Value).ownBlock ∧ some k_ ≠ (.slice Ao26 x6_1.length co26 : Value).ownBlock) v163 y162) := ⟨h1_⟩
                    have n2_ : Aside0 (Kd.R Kd.string 9 w34 w.heap.size (fun k_ => some k_ ≠ (v160 : Value).ownBlock ∧ some k_ ≠ (v163 : Value).ownBlock ∧ True) u5 x5_1) := ⟨h2_⟩
                    have n3_ : Aside0 (Kd.R Kd.string 9 w34 w.heap.size (fun k_ => some k_ ≠ (v160 : Value).ownBlock ∧ some k_ ≠ (v163 : Value).ownBlock ∧ True) (.slice Ao26 x6_1.length co26) x6_1) := ⟨h3_⟩
                    have n4_ : Aside0 (w34.heap[gb147]? = some (.cells #[.string t150, .string t151, .int .i64 t152, .bool t153] 60 (0, 0))) := ⟨h4_⟩
                    have n5_ : Aside0 (w34.heap[gb149]? = some (.cells #[.int .i64 ((rd_T76 l0 x7_1).f0), .int .i64 ((rd_T76 l0 x7_1).f1), .string ((rd_T76 l0 x7_1).f2)] 76 (0, 0))) := ⟨h5_⟩
                    have n6_ : Aside0 (w34.heap[gb155]? = some (.cells #[.string t150, .string t151, .int .i64 t152, .bool t153] 60 (0, 0))) := ⟨h6_⟩
                    have n7_ : Aside0 (Below w.heap.size w w34) := ⟨h7_⟩
                    clear HO_5
                    clear HO_6
                    clear BK147
                    clear BK149
                    clear BK155
                    clear HB
                    clear h0_ h1_ h2_ h3_ h4_ h5_ h6_ h7_
                    have HO161 := n0_
                    have HO164 := n1_
                    have HO_5 := n2_
                    have HO_6 := n3_
                    have BK147 := n4_
                    have BK149 := n5_
                    have BK155 := n6_
                    have HB := n7_
                    clear n0_ n1_ n2_ n3_ n4_ n5_ n6_ n7_
                    have hHeld : w34.cell? ⟨gb149, 0, none⟩ = some (.int .i64 ((rd_T76 l0 x7_1).f0)) ∧ w34.cell? ⟨gb149, 1, none⟩ = some (.int .i64 ((rd_T76 l0 x7_1).f1)) ∧ w34.cell? ⟨gb149, 2, none⟩ = some (.string ((rd_T76 l0 x7_1).f2)) := hS_
                    obtain ⟨Ao36, co36, eo36⟩ := Kd.R_slice HO164.out
                    (first | subst eo36 | (injection eo36 with f1_ f2_ f3_; have f4_ := f1_.symm; have f5_ := f3_.symm; clear f1_ f2_ f3_; subst f4_; subst f5_))
                    refine norm_ (a' := ?_) ?_ ?_
                    rotate_left
                    · simp only [putAll, Act.put, List.setIfInBounds_toArray, List.set_cons_zero, List.set_cons_succ]
                      rfl
                    refine one_ (i := 6) (N := some 47) #[true, true, true, true, true, true, true, false] rfl rfl (one_of HT_.out (by kernel_rfl)) (by decide) (fun K hK => ?_)
                    refine Kd.R_append_rows_step Kd.string (w0 := w) w.heap.size (by rfl) (.tmp 43) (.tmp 46) 22 9 (.string ⟨#[]⟩) 16 rfl Try.underlying22 info9 rfl (by decide) (by omega) v160 y159 y162 _ _ _ (fun k_ => some k_ ≠ (u5 : Value).ownBlock ∧ some k_ ≠ (.slice Ao26 x6_1.length co26 : Value).ownBlock ∧ some k_ ≠ (.slice Ao36 y162.length co36 : Value).ownBlock) (fun _ => False) rfl rfl ?aO ?aR (fun _ _ h => h) (fun _ h => h.elim) ?aF ?aB ?aS ?aL ?_
                    (case aR => repeat (first | exact (Kd.R_reads' HO164.out).2.2 | (with_reducible refine Kd.C_alloc ?_ _) | (with_reducible refine Kd.C_drewN ?_ _) | (with_reducible refine Kd.C_drew ?_)))
                    (case aB => exact (by repeat (first | (with_reducible first | exact HB.out | apply below_alloc | apply pw_below_drewN | apply below_drew1 | refine below_set ?_ GE147.out | refine below_set ?_ GE149.out | refine below_set ?_ GE155.out) | exact HB.out)))
                    (case aF => exact (fun k_ hk => ⟨Kd.fresh' (Kd.R_lt (by (with_reducible repeat (first | apply Kd.R_alloc | apply Kd.R_drewN | apply Kd.R_drew)); exact HO_5.out)) k_ hk, Kd.fresh' (Kd.R_lt (by (with_reducible repeat (first | apply Kd.R_alloc | apply Kd.R_drewN | apply Kd.R_drew)); exact HO_6.out)) k_ hk, Kd.fresh' (Kd.R_lt (by (with_reducible repeat (first | apply Kd.R_alloc | apply Kd.R_drewN | apply Kd.R_drew)); exact HO164.out)) k_ hk⟩))
                    (case aO => exact (by (with_reducible repeat (first | apply Kd.R_alloc | apply Kd.R_drewN | apply Kd.R_drew)); exact Kd.R_mono HO161.out (fun _ hk => ⟨hk.2.1, ⟨hk.2.2, hk.1⟩⟩)))
                    (case aS => exact (below_size (by repeat (first | (with_reducible first | exact HB.out | apply below_alloc | apply pw_below_drewN | apply below_drew1 | refine below_set ?_ GE147.out | refine below_set ?_ GE149.out | refine below_set ?_ GE155.out) | exact HB.out))))
                    (case aL => have := LMc16.out; omega)
                    intro v166 w35 ho hb hg hat
                    rw [← Ny165.out] at ho
                    have n0_ := Aside0.mk (Kd.R_after (ok := (fun k_ => True ∧ some k_ ≠ (.slice Ao36 y162.length co36 : Value).ownBlock)) (by (with_reducible repeat (first | apply Kd.R_alloc | apply Kd.R_drewN | apply Kd.R_drew)); exact Kd.R_mono HO_5.out (fun _ hk => ⟨⟨hk.2.2, hk.2.1⟩, hk.1⟩)) hg hat)
                    have n1_ := Aside0.mk (Kd.R_after (ok := (fun k_ => True ∧ some k_ ≠ (.slice Ao36 y162.length co36 : Value).ownBlock)) (by (with_reducible repeat (first | apply Kd.R_alloc | apply Kd.R_drewN | apply Kd.R_drew)); exact Kd.R_mono HO_6.out (fun _ hk => ⟨⟨hk.2.2, hk.2.1⟩, hk.1⟩)) hg hat)
                    have n2_ := Aside0.mk (blk_grown (g := gb147) (o := .cells #[.string t150, .string t151, .int .i64 t152, .bool t153] 60 (0, 0)) (by (with_reducible repeat (first | refine blk_drewN ?_ _ | refine blk_drew ?_ | refine blk_alloc ?_ _)); exact BK147.out) hg (Kd.R_ne HO161.out BK147.out (by decide)))
                    have n3_ := Aside0.mk (blk_grown (g := gb149) (o := .cells #[.int .i64 ((rd_T76 l0 x7_1).f0), .int .i64 ((rd_T76 l0 x7_1).f1), .string ((rd_T76 l0 x7_1).f2)] 76 (0, 0)) (by (with_reducible repeat (first | refine blk_drewN ?_ _ | refine blk_drew ?_ | refine blk_alloc ?_ _)); exact BK149.out) hg (Kd.R_ne HO161.out BK149.out (by decide)))
                    have n4_ := Aside0.mk (blk_grown (g := gb155) (o := .cells #[.string t150, .string t151, .int .i64 t152, .bool t153] 60 (0, 0)) (by (with_reducible repeat (first | refine blk_drewN ?_ _ | refine blk_drew ?_ | refine blk_alloc ?_ _)); exact BK155.out) hg (Kd.R_ne HO161.out BK155.out (by decide)))
                    have n5_ := Aside0.mk (Kd.R_after (ok := (fun k_ => some k_ ≠ (u5 : Value).ownBlock ∧ some k_ ≠ (.slice Ao26 x6_1.length co26 : Value).ownBlock)) (by (with_reducible repeat (first | apply Kd.R_alloc | apply Kd.R_drewN | apply Kd.R_drew)); exact Kd.R_mono HO164.out (fun _ hk => ⟨⟨hk.2.1, hk.2.2⟩, hk.1⟩)) hg hat)
                    have n6_ := Aside0.mk (hb)
                    have n7_ := Aside0.mk (ho)
                    clear HO_5
                    clear HO_6
                    clear BK147
                    clear BK149
                    clear BK155
                    clear HO164
                    clear HB
                    clear HO161
                    have HO_5 := n0_
                    have HO_6 := n1_
                    have BK147 := n2_
                    have BK149 := n3_
                    have BK155 := n4_
                    have HO164 := n5_
                    have HB := n6_
                    have HO167 := n7_
                    clear n0_ n1_ n2_ n3_ n4_ n5_ n6_ n7_
                    clear ho hb hg hat
                    refine hK.out _ _ ⟨(blk_cell BK149.out 0).trans rfl, (blk_cell BK149.out 1).trans rfl, (blk_cell BK149.out 2).trans rfl⟩ (fun hHeld => ?_)
                    clear hK K
                    refine norm_ (a' := ?_) ?_ ?_
                    rotate_left
                    · show Act.put _ (some 47) _ = _
                      simp only [Act.put, List.setIfInBounds_toArray, List.set_cons_zero, List.set_cons_succ, i64_w, i32_w]
                      rfl
                    refine pure_ (i := 7) (N := some 6) (v := ?_) (a' := ?_) #[true, true, true, true, true, true, true, true] rfl rfl (any_of HT_.out (by kernel_rfl)) (fun _ _ _ h => h) (Or.inl ⟨by rfl, ?_⟩) ?_ ?_
                    rotate_left
                    · intro w'
                      go_simp
                      with_reducible rfl
                    rotate_left
                    · simp only [Act.put, List.setIfInBounds_toArray, List.set_cons_zero, List.set_cons_succ, i64_w, i32_w]
                      rfl
                    refine done_ (done_of HT_.out (by kernel_rfl)) ?_
                    try go_wp2
                    go_meet
                    case rel => exact ⟨_, (x5_1), (y165), (t150), (t151), (t152), (t153), H', ⟨by have := HK1.out; first | omega | exact Nat.le_refl _⟩, ⟨by (with_reducible repeat (first | apply Kd.R_alloc | apply Kd.R_drewN | apply Kd.R_drew)); exact Kd.R_mono HO_5.out (fun _ _ => trivial)⟩, ⟨by (with_reducible repeat (first | apply Kd.R_alloc | apply Kd.R_drewN | apply Kd.R_drew)); exact Kd.R_mono HO167.out (fun _ _ => trivial)⟩, ⟨by (with_reducible repeat (first | refine blk_drewN ?_ _ | refine blk_drew ?_ | refine blk_alloc ?_ _)); exact BK147.out⟩, ⟨by (with_reducible repeat (first | refine blk_drewN ?_ _ | refine blk_drew ?_ | refine blk_alloc ?_ _)); exact BK149.out⟩, ⟨by repeat (first | (with_reducible first | exact HB.out | apply below_alloc | apply pw_below_drewN | apply below_drew1 | refine below_set ?_ GE147.out | refine below_set ?_ GE149.out | refine below_set ?_ GE155.out) | exact HB.out)⟩⟩
                  · rw [if_neg c16] at H
                    exact absurd H (by simp)
                · rw [if_neg c15] at H
                  exact absurd H (by simp)
              · rw [if_neg c14] at H
                have c14b0 : (t154 == 0) = false := beq_eq_false_iff_ne.mpr c14
                have c14b1 : (t154 != 0) = true := bne_iff_ne.mpr c14
                have H' := Aside0.mk H
                clear H
                have hnb37 := NB147_149.out
                have hnc37 := NB149_147.out
                have hcz38_0 : w9.cell? ⟨gb147, 0, none⟩ = some (.string x148000_1) := (blk_cell BK147.out 0).trans rfl
                have hcz38_1 : w9.cell? ⟨gb147, 1, none⟩ = some (.string x148001_1) := (blk_cell BK147.out 1).trans rfl
                have hcz38_2 : w9.cell? ⟨gb147, 2, none⟩ = some (.int .i64 x148002_1) := (blk_cell BK147.out 2).trans rfl
                have hcz38_3 : w9.cell? ⟨gb147, 3, none⟩ = some (.bool x148003_1) := (blk_cell BK147.out 3).trans rfl
                have hfz38_0 := blk_frozen BK147.out 0
                have hfz38_1 := blk_frozen BK147.out 1
                have hfz38_2 := blk_frozen BK147.out 2
                have hfz38_3 := blk_frozen BK147.out 3
                have hcz39_0 : w9.cell? ⟨gb149, 0, none⟩ = some (.int .i64 0) := (blk_cell BK149.out 0).trans rfl
                have hcz39_1 : w9.cell? ⟨gb149, 1, none⟩ = some (.int .i64 0) := (blk_cell BK149.out 1).trans rfl
                have hcz39_2 : w9.cell? ⟨gb149, 2, none⟩ = some (.string (⟨#[]⟩ : ByteArray)) := (blk_cell BK149.out 2).trans rfl
                have hfz39_0 := blk_frozen BK149.out 0
                have hfz39_1 := blk_frozen BK149.out 1
                have hfz39_2 := blk_frozen BK149.out 2
                go_wp2_with (first | ((with_reducible refine gate_callee (f := 37) rfl ?_); refine goesL_ (some 35) rfl rfl Try.func37 (by kernel_rfl) rfl #[.agg #[.string x148000_1, .string x148001_1, .int .i64 x148002_1, .bool x148003_1], .string ((rd_T76 l0 x7_1).f2)] rfl (by (try simp only [List.map_toArray, List.map_cons, List.map_nil]); first | done | rfl | (simp only [List.length_drop, List.length_take]; rfl)) ?_; (with_reducible refine (paper_Append.calls x148000_1 x148001_1 x148002_1 x148003_1 ((rd_T76 l0 x7_1).f2) t150 t151 t152 t153 t154 _ A13.out).mono ?_); rintro e w40 ⟨rfl, hb⟩; refine ⟨_, rfl, ?_⟩; have n0_ := Aside0.mk (Kd.R_below (by (with_reducible repeat (first | apply Kd.R_alloc | apply Kd.R_drewN | apply Kd.R_drew)); exact (Kd.R_mono (Kd.R_far (p := ⟨gb149, 2, none⟩) (Kd.R_far (p := ⟨gb149, 1, none⟩) (Kd.R_far (p := ⟨gb149, 0, none⟩) (Kd.R_types HO_5.out BK149.out (by decide)) (fun _ hk => hk.2) (.int .i64 ((rd_T76 l0 x7_1).f0))) (fun _ hk => hk.2) (.int .i64 ((rd_T76 l0 x7_1).f1))) (fun _ hk => hk.2) (.string ((rd_T76 l0 x7_1).f2))) (fun _ h_ => h_.1))) hb); have n1_ := Aside0.mk (Kd.R_below (by (with_reducible repeat (first | apply Kd.R_alloc | apply Kd.R_drewN | apply Kd.R_drew)); exact (Kd.R_mono (Kd.R_far (p := ⟨gb149, 2, none⟩) (Kd.R_far (p := ⟨gb149, 1, none⟩) (Kd.R_far (p := ⟨gb149, 0, none⟩) (Kd.R_types HO_6.out BK149.out (by decide)) (fun _ hk => hk.2) (.int .i64 ((rd_T76 l0 x7_1).f0))) (fun _ hk => hk.2) (.int .i64 ((rd_T76 l0 x7_1).f1))) (fun _ hk => hk.2) (.string ((rd_T76 l0 x7_1).f2))) (fun _ h_ => h_.1))) hb); have n2_ := Aside0.mk (blk_below (g := gb147) (o := .cells #[.string x148000_1, .string x148001_1, .int .i64 x148002_1, .bool x148003_1] 60 (0, 0)) (by (with_reducible repeat (first | refine blk_drewN ?_ _ | refine blk_drew ?_ | refine blk_alloc ?_ _)); refine blk_far ?_ NB147_149.out _; (with_reducible repeat (first | refine blk_drewN ?_ _ | refine blk_drew ?_ | refine blk_alloc ?_ _)); refine blk_far ?_ NB147_149.out _; (with_reducible repeat (first | refine blk_drewN ?_ _ | refine blk_drew ?_ | refine blk_alloc ?_ _)); refine blk_far ?_ NB147_149.out _; (with_reducible repeat (first | refine blk_drewN ?_ _ | refine blk_drew ?_ | refine blk_alloc ?_ _)); exact BK147.out) hb); have n3_ := Aside0.mk (blk_below (g := gb149) (o := .cells #[.int .i64 ((rd_T76 l0 x7_1).f0), .int .i64 ((rd_T76 l0 x7_1).f1), .string ((rd_T76 l0 x7_1).f2)] 76 (0, 0)) (by (with_reducible repeat (first | refine blk_drewN ?_ _ | refine blk_drew ?_ | refine blk_alloc ?_ _)); refine blk_put (cs := #[.int .i64 ((rd_T76 l0 x7_1).f0), .int .i64 ((rd_T76 l0 x7_1).f1), .string (⟨#[]⟩ : ByteArray)]) ?_ 2 _ rfl; (with_reducible repeat (first | refine blk_drewN ?_ _ | refine blk_drew ?_ | refine blk_alloc ?_ _)); refine blk_put (cs := #[.int .i64 ((rd_T76 l0 x7_1).f0), .int .i64 0, .string (⟨#[]⟩ : ByteArray)]) ?_ 1 _ rfl; (with_reducible repeat (first | refine blk_drewN ?_ _ | refine blk_drew ?_ | refine blk_alloc ?_ _)); refine blk_put (cs := #[.int .i64 0, .int .i64 0, .string (⟨#[]⟩ : ByteArray)]) ?_ 0 _ rfl; (with_reducible repeat (first | refine blk_drewN ?_ _ | refine blk_drew ?_ | refine blk_alloc ?_ _)); exact BK149.out) hb); have n4_ := Aside0.mk (below_step (by repeat (first | (with_reducible first | exact HB.out | apply below_alloc | apply pw_below_drewN | apply below_drew1 | refine below_set ?_ GE147.out | refine below_set ?_ GE149.out) | exact HB.out)) hb); clear HO_5; clear HO_6; clear BK147; clear BK149; clear HB; have HO_5 := n0_; have HO_6 := n1_; have BK147 := n2_; have BK149 := n3_; have HB := n4_; clear n0_ n1_ n2_ n3_ n4_; (try clear hb); (try clear hb2); (try clear hk); (try clear hi)) | ((with_reducible refine gate_dst (N := 9) rfl ?_); refine box_event ?hg (N := 9) ?hd (cs := #[.string (⟨#[]⟩ : ByteArray), .string (⟨#[]⟩ : ByteArray), .int .i64 0, .bool false]) (t := 60) ?hr ?_; (case hd => rfl); (case hg => rfl); (case hr => first | (go_simp; done) | (go_simp; rfl)); intro gb155 hg w41 hbox hb; have n0_ := Aside0.mk (Kd.R_below (by (with_reducible repeat (first | apply Kd.R_alloc | apply Kd.R_drewN | apply Kd.R_drew)); exact HO_5.out) hb); have n1_ := Aside0.mk (Kd.R_below (by (with_reducible repeat (first | apply Kd.R_alloc | apply Kd.R_drewN | apply Kd.R_drew)); exact HO_6.out) hb); have n2_ := Aside0.mk (blk_below (g := gb147) (o := .cells #[.string x148000_1, .string x148001_1, .int .i64 x148002_1, .bool x148003_1] 60 (0, 0)) (by (with_reducible repeat (first | refine blk_drewN ?_ _ | refine blk_drew ?_ | refine blk_alloc ?_ _)); exact BK147.out) hb); have n3_ := Aside0.mk (blk_below (g := gb149) (o := .cells #[.int .i64 ((rd_T76 l0 x7_1).f0), .int .i64 ((rd_T76 l0 x7_1).f1), .string ((rd_T76 l0 x7_1).f2)] 76 (0, 0)) (by (with_reducible repeat (first | refine blk_drewN ?_ _ | refine blk_drew ?_ | refine blk_alloc ?_ _)); exact BK149.out) hb); have n4_ := Aside0.mk (below_step (by repeat (first | (with_reducible first | exact HB.out | apply below_alloc | apply pw_below_drewN | apply below_drew1 | refine below_set ?_ GE147.out | refine below_set ?_ GE149.out) | exact HB.out)) hb); have n5_ := Aside0.mk (hbox); have n6_ := Aside0.mk ((by rw [hg]; exact (below_size (by repeat (first | (with_reducible first | exact HB.out | apply below_alloc | apply pw_below_drewN | apply below_drew1 | refine below_set ?_ GE147.out | refine below_set ?_ GE149.out) | exact HB.out))) : w.heap.size ≤ gb155)); have n7_ := Aside0.mk ((by rw [hg]; exact (below_size (by repeat (first | (with_reducible first | exact HB.out | apply below_alloc | apply pw_below_drewN | apply below_drew1 | refine below_set ?_ GE147.out | refine below_set ?_ GE149.out) | exact HB.out))) : w.heap.size ≤ gb155)); have n8_ := Aside0.mk ((by rw [hg]; exact Nat.ne_of_lt (blk_lt (g := gb147) (o := .cells #[.string x148000_1, .string x148001_1, .int .i64 x148002_1, .bool x148003_1] 60 (0, 0)) (by (with_reducible repeat (first | refine blk_drewN ?_ _ | refine blk_drew ?_ | refine blk_alloc ?_ _)); exact BK147.out)) : gb147 ≠ gb155)); have n9_ := Aside0.mk ((by rw [hg]; exact Nat.ne_of_gt (blk_lt (g := gb147) (o := .cells #[.string x148000_1, .string x148001_1, .int .i64 x148002_1, .bool x148003_1] 60 (0, 0)) (by (with_reducible repeat (first | refine blk_drewN ?_ _ | refine blk_drew ?_ | refine blk_alloc ?_ _)); exact BK147.out)) : gb155 ≠ gb147)); have n10_ := Aside0.mk ((by rw [hg]; exact Nat.ne_of_lt (blk_lt (g := gb149) (o := .cells #[.int .i64 ((rd_T76 l0 x7_1).f0), .int .i64 ((rd_T76 l0 x7_1).f1), .string ((rd_T76 l0 x7_1).f2)] 76 (0, 0)) (by (with_reducible repeat (first | refine blk_drewN ?_ _ | refine blk_drew ?_ | refine blk_alloc ?_ _)); exact BK149.out)) : gb149 ≠ gb155)); have n11_ := Aside0.mk ((by rw [hg]; exact Nat.ne_of_gt (blk_lt (g := gb149) (o := .cells #[.int .i64 ((rd_T76 l0 x7_1).f0), .int .i64 ((rd_T76 l0 x7_1).f1), .string ((rd_T76 l0 x7_1).f2)] 76 (0, 0)) (by (with_reducible repeat (first | refine blk_drewN ?_ _ | refine blk_drew ?_ | refine blk_alloc ?_ _)); exact BK149.out)) : gb155 ≠ gb149)); clear HO_5; clear HO_6; clear BK147; clear BK149; clear HB; have HO_5 := n0_; have HO_6 := n1_; have BK147 := n2_; have BK149 := n3_; have HB := n4_; have BK155 := n5_; have GW155 := n6_; have GE155 := n7_; have NB147_155 := n8_; have NB155_147 := n9_; have NB149_155 := n10_; have NB155_149 := n11_; clear n0_ n1_ n2_ n3_ n4_ n5_ n6_ n7_ n8_ n9_ n10_ n11_; clear hb hbox hg; have hnb42 := NB155_147.out; have hnc42 := NB147_155.out; have hnb43 := NB155_149.out; have hnc43 := NB149_155.out; have hcz44_0 : w41.cell? ⟨gb155, 0, none⟩ = some (.string (⟨#[]⟩ : ByteArray)) := (blk_cell BK155.out 0).trans rfl; have hcz44_1 : w41.cell? ⟨gb155, 1, none⟩ = some (.string (⟨#[]⟩ : ByteArray)) := (blk_cell BK155.out 1).trans rfl; have hcz44_2 : w41.cell? ⟨gb155, 2, none⟩ = some (.int .i64 0) := (blk_cell BK155.out 2).trans rfl; have hcz44_3 : w41.cell? ⟨gb155, 3, none⟩ = some (.bool false) := (blk_cell BK155.out 3).trans rfl; have hfz44_0 := blk_frozen BK155.out 0; have hfz44_1 := blk_frozen BK155.out 1; have hfz44_2 := blk_frozen BK155.out 2; have hfz44_3 := blk_frozen BK155.out 3; have hcz45_0 : w41.cell? ⟨gb147, 0, none⟩ = some (.string x148000_1) := (blk_cell BK147.out 0).trans rfl; have hcz45_1 : w41.cell? ⟨gb147, 1, none⟩ = some (.string x148001_1) := (blk_cell BK147.out 1).trans rfl; have hcz45_2 : w41.cell? ⟨gb147, 2, none⟩ = some (.int .i64 x148002_1) := (blk_cell BK147.out 2).trans rfl; have hcz45_3 : w41.cell? ⟨gb147, 3, none⟩ = some (.bool x148003_1) := (blk_cell BK147.out 3).trans rfl; have hfz45_0 := blk_frozen BK147.out 0; have hfz45_1 := blk_frozen BK147.out 1; have hfz45_2 := blk_frozen BK147.out 2; have hfz45_3 := blk_frozen BK147.out 3))
                go_meet
                case rel => exact ⟨_, (x5_1), (x6_1), (t150), (t151), (t152), (t153), H', ⟨by have := HK1.out; first | omega | exact Nat.le_refl _⟩, ⟨by (with_reducible repeat (first | apply Kd.R_alloc | apply Kd.R_drewN | apply Kd.R_drew)); exact Kd.R_mono (Kd.R_far (p := ⟨gb147, 3, none⟩) (Kd.R_far (p := ⟨gb147, 2, none⟩) (Kd.R_far (p := ⟨gb147, 1, none⟩) (Kd.R_far (p := ⟨gb147, 0, none⟩) (Kd.R_far (p := ⟨gb155, 3, none⟩) (Kd.R_far (p := ⟨gb155, 2, none⟩) (Kd.R_far (p := ⟨gb155, 1, none⟩) (Kd.R_far (p := ⟨gb155, 0, none⟩) (Kd.R_types (Kd.R_types HO_5.out BK155.out (by decide)) BK147.out (by decide)) (fun _ hk => hk.1.2) (.string t150)) (fun _ hk => hk.1.2) (.string t151)) (fun _ hk => hk.1.2) (.int .i64 t152)) (fun _ hk => hk.1.2) (.bool t153)) (fun _ hk => hk.2) (.string t150)) (fun _ hk => hk.2) (.string t151)) (fun _ hk => hk.2) (.int .i64 t152)) (fun _ hk => hk.2) (.bool t153)) (fun _ hk => hk.1.1)⟩, ⟨by (with_reducible repeat (first | apply Kd.R_alloc | apply Kd.R_drewN | apply Kd.R_drew)); exact Kd.R_mono (Kd.R_far (p := ⟨gb147, 3, none⟩) (Kd.R_far (p := ⟨gb147, 2, none⟩) (Kd.R_far (p := ⟨gb147, 1, none⟩) (Kd.R_far (p := ⟨gb147, 0, none⟩) (Kd.R_far (p := ⟨gb155, 3, none⟩) (Kd.R_far (p := ⟨gb155, 2, none⟩) (Kd.R_far (p := ⟨gb155, 1, none⟩) (Kd.R_far (p := ⟨gb155, 0, none⟩) (Kd.R_types (Kd.R_types HO_6.out BK155.out (by decide)) BK147.out (by decide)) (fun _ hk => hk.1.2) (.string t150)) (fun _ hk => hk.1.2) (.string t151)) (fun _ hk => hk.1.2) (.int .i64 t152)) (fun _ hk => hk.1.2) (.bool t153)) (fun _ hk => hk.2) (.string t150)) (fun _ hk => hk.2) (.string t151)) (fun _ hk => hk.2) (.int .i64 t152)) (fun _ hk => hk.2) (.bool t153)) (fun _ hk => hk.1.1)⟩, ⟨by (with_reducible repeat (first | refine blk_drewN ?_ _ | refine blk_drew ?_ | refine blk_alloc ?_ _)); refine blk_put (cs := #[.string t150, .string t151, .int .i64 t152, .bool x148003_1]) ?_ 3 _ rfl; (with_reducible repeat (first | refine blk_drewN ?_ _ | refine blk_drew ?_ | refine blk_alloc ?_ _)); refine blk_put (cs := #[.string t150, .string t151, .int .i64 x148002_1, .bool x148003_1]) ?_ 2 _ rfl; (with_reducible repeat (first | refine blk_drewN ?_ _ | refine blk_drew ?_ | refine blk_alloc ?_ _)); refine blk_put (cs := #[.string t150, .string x148001_1, .int .i64 x148002_1, .bool x148003_1]) ?_ 1 _ rfl; (with_reducible repeat (first | refine blk_drewN ?_ _ | refine blk_drew ?_ | refine blk_alloc ?_ _)); refine blk_put (cs := #[.string x148000_1, .string x148001_1, .int .i64 x148002_1, .bool x148003_1]) ?_ 0 _ rfl; (with_reducible repeat (first | refine blk_drewN ?_ _ | refine blk_drew ?_ | refine blk_alloc ?_ _)); refine blk_far ?_ NB147_155.out _; (with_reducible repeat (first | refine blk_drewN ?_ _ | refine blk_drew ?_ | refine blk_alloc ?_ _)); refine blk_far ?_ NB147_155.out _; (with_reducible repeat (first | refine blk_drewN ?_ _ | refine blk_drew ?_ | refine blk_alloc ?_ _)); refine blk_far ?_ NB147_155.out _; (with_reducible repeat (first | refine blk_drewN ?_ _ | refine blk_drew ?_ | refine blk_alloc ?_ _)); refine blk_far ?_ NB147_155.out _; (with_reducible repeat (first | refine blk_drewN ?_ _ | refine blk_drew ?_ | refine blk_alloc ?_ _)); exact BK147.out⟩, ⟨by (with_reducible repeat (first | refine blk_drewN ?_ _ | refine blk_drew ?_ | refine blk_alloc ?_ _)); refine blk_far ?_ NB149_147.out _; (with_reducible repeat (first | refine blk_drewN ?_ _ | refine blk_drew ?_ | refine blk_alloc ?_ _)); refine blk_far ?_ NB149_147.out _; (with_reducible repeat (first | refine blk_drewN ?_ _ | refine blk_drew ?_ | refine blk_alloc ?_ _)); refine blk_far ?_ NB149_147.out _; (with_reducible repeat (first | refine blk_drewN ?_ _ | refine blk_drew ?_ | refine blk_alloc ?_ _)); refine blk_far ?_ NB149_147.out _; (with_reducible repeat (first | refine blk_drewN ?_ _ | refine blk_drew ?_ | refine blk_alloc ?_ _)); refine blk_far ?_ NB149_155.out _; (with_reducible repeat (first | refine blk_drewN ?_ _ | refine blk_drew ?_ | refine blk_alloc ?_ _)); refine blk_far ?_ NB149_155.out _; (with_reducible repeat (first | refine blk_drewN ?_ _ | refine blk_drew ?_ | refine blk_alloc ?_ _)); refine blk_far ?_ NB149_155.out _; (with_reducible repeat (first | refine blk_drewN ?_ _ | refine blk_drew ?_ | refine blk_alloc ?_ _)); refine blk_far ?_ NB149_155.out _; (with_reducible repeat (first | refine blk_drewN ?_ _ | refine blk_drew ?_ | refine blk_alloc ?_ _)); exact BK149.out⟩, ⟨by repeat (first | (with_reducible first | exact HB.out | apply below_alloc | apply pw_below_drewN | apply below_drew1 | refine below_set ?_ GE147.out | refine below_set ?_ GE149.out | refine below_set ?_ GE155.out) | exact HB.out)⟩⟩
            · rw [if_neg c12] at H
              have c12b0 : (((rd_T76 l0 x7_1).f0) == 1) = false := beq_eq_false_iff_ne.mpr c12
              have c12b1 : (((rd_T76 l0 x7_1).f0) != 1) = true := bne_iff_ne.mpr c12
              (first | rw [c12b0] | (simp only [i64_w, i32_w]; rw [c12b0]) | skip)
              by_cases c46 : ((rd_T76 l0 x7_1).f0) = 2
              · rw [if_pos c46] at H
                have c46b0 : (((rd_T76 l0 x7_1).f0) == 2) = true := beq_iff_eq.mpr c46
                have c46b1 : (((rd_T76 l0 x7_1).f0) != 2) = false := bne_eq_false_iff_eq.mpr c46
                clear c46
                replace H := Option.bind_eq_some_iff.mp H
                obtain ⟨⟨t168, t169, t170, t171, t172⟩, A470, H⟩ := H
                replace H : (if t172 = 0 then (selvedgelaw17_PaperLasts.j1 k1 l0 t146 x6_1 x6_1 x7_1 t168 t169 t170 t171) else (selvedgelaw17_PaperLasts.j1 k1 l0 t146 x5_1 x6_1 x7_1 t168 t169 t170 t171)) = some r := H
                have A47 := Aside0.mk A470
                clear A470
                by_cases c48 : t172 = 0
                · rw [if_pos c48] at H
                  have c48b0 : (t172 == 0) = true := beq_iff_eq.mpr c48
                  have c48b1 : (t172 != 0) = false := bne_eq_false_iff_eq.mpr c48
                  clear c48
                  have H' := Aside0.mk H
                  clear H
                  have hnb49 := NB147_149.out
                  have hnc49 := NB149_147.out
                  have hcz50_0 : w9.cell? ⟨gb147, 0, none⟩ = some (.string x148000_1) := (blk_cell BK147.out 0).trans rfl
                  have hcz50_1 : w9.cell? ⟨gb147, 1, none⟩ = some (.string x148001_1) := (blk_cell BK147.out 1).trans rfl
                  have hcz50_2 : w9.cell? ⟨gb147, 2, none⟩ = some (.int .i64 x148002_1) := (blk_cell BK147.out 2).trans rfl
                  have hcz50_3 : w9.cell? ⟨gb147, 3, none⟩ = some (.bool x148003_1) := (blk_cell BK147.out 3).trans rfl
                  have hfz50_0 := blk_frozen BK147.out 0
                  have hfz50_1 := blk_frozen BK147.out 1
                  have hfz50_2 := blk_frozen BK147.out 2
                  have hfz50_3 := blk_frozen BK147.out 3
                  go_wp2_with (first | ((with_reducible refine gate_callee (f := 38) rfl ?_); refine goesL_ (some 52) rfl rfl Try.func38 (by kernel_rfl) rfl #[.agg #[.string x148000_1, .string x148001_1, .int .i64 x148002_1, .bool x148003_1]] rfl (by (try simp only [List.map_toArray, List.map_cons, List.map_nil]); first | done | rfl | (simp only [List.length_drop, List.length_take]; rfl)) ?_; (with_reducible refine (paper_Sync.calls x148000_1 x148001_1 x148002_1 x148003_1 t168 t169 t170 t171 t172 _ A47.out).mono ?_); rintro e w51 ⟨rfl, hb⟩; refine ⟨_, rfl, ?_⟩; have n0_ := Aside0.mk (Kd.R_below (by (with_reducible repeat (first | apply Kd.R_alloc | apply Kd.R_drewN | apply Kd.R_drew)); exact (Kd.R_mono (Kd.R_far (p := ⟨gb149, 2, none⟩) (Kd.R_far (p := ⟨gb149, 1, none⟩) (Kd.R_far (p := ⟨gb149, 0, none⟩) (Kd.R_types HO_5.out BK149.out (by decide)) (fun _ hk => hk.2) (.int .i64 ((rd_T76 l0 x7_1).f0))) (fun _ hk => hk.2) (.int .i64 ((rd_T76 l0 x7_1).f1))) (fun _ hk => hk.2) (.string ((rd_T76 l0 x7_1).f2))) (fun _ h_ => h_.1))) hb); have n1_ := Aside0.mk (Kd.R_below (by (with_reducible repeat (first | apply Kd.R_alloc | apply Kd.R_drewN | apply Kd.R_drew)); exact (Kd.R_mono (Kd.R_far (p := ⟨gb149, 2, none⟩) (Kd.R_far (p := ⟨gb149, 1, none⟩) (Kd.R_far (p := ⟨gb149, 0, none⟩) (Kd.R_types HO_6.out BK149.out (by decide)) (fun _ hk => hk.2) (.int .i64 ((rd_T76 l0 x7_1).f0))) (fun _ hk => hk.2) (.int .i64 ((rd_T76 l0 x7_1).f1))) (fun _ hk => hk.2) (.string ((rd_T76 l0 x7_1).f2))) (fun _ h_ => h_.1))) hb); have n2_ := Aside0.mk (blk_below (g := gb147) (o := .cells #[.string x148000_1, .string x148001_1, .int .i64 x148002_1, .bool x148003_1] 60 (0, 0)) (by (with_reducible repeat (first | refine blk_drewN ?_ _ | refine blk_drew ?_ | refine blk_alloc ?_ _)); refine blk_far ?_ NB147_149.out _; (with_reducible repeat (first | refine blk_drewN ?_ _ | refine blk_drew ?_ | refine blk_alloc ?_ _)); refine blk_far ?_ NB147_149.out _; (with_reducible repeat (first | refine blk_drewN ?_ _ | refine blk_drew ?_ | refine blk_alloc ?_ _)); refine blk_far ?_ NB147_149.out _; (with_reducible repeat (first | refine blk_drewN ?_ _ | refine blk_drew ?_ | refine blk_alloc ?_ _)); exact BK147.out) hb); have n3_ := Aside0.mk (blk_below (g := gb149) (o := .cells #[.int .i64 ((rd_T76 l0 x7_1).f0), .int .i64 ((rd_T76 l0 x7_1).f1), .string ((rd_T76 l0 x7_1).f2)] 76 (0, 0)) (by (with_reducible repeat (first | refine blk_drewN ?_ _ | refine blk_drew ?_ | refine blk_alloc ?_ _)); refine blk_put (cs := #[.int .i64 ((rd_T76 l0 x7_1).f0), .int .i64 ((rd_T76 l0 x7_1).f1), .string (⟨#[]⟩ : ByteArray)]) ?_ 2 _ rfl; (with_reducible repeat (first | refine blk_drewN ?_ _ | refine blk_drew ?_ | refine blk_alloc ?_ _)); refine blk_put (cs := #[.int .i64 ((rd_T76 l0 x7_1).f0), .int .i64 0, .string (⟨#[]⟩ : ByteArray)]) ?_ 1 _ rfl; (with_reducible repeat (first | refine blk_drewN ?_ _ | refine blk_drew ?_ | refine blk_alloc ?_ _)); refine blk_put (cs := #[.int .i64 0, .int .i64 0, .string (⟨#[]⟩ : ByteArray)]) ?_ 0 _ rfl; (with_reducible repeat (first | refine blk_drewN ?_ _ | refine blk_drew ?_ | refine blk_alloc ?_ _)); exact BK149.out) hb); have n4_ := Aside0.mk (below_step (by repeat (first | (with_reducible first | exact HB.out | apply below_alloc | apply pw_below_drewN | apply below_drew1 | refine below_set ?_ GE147.out | refine below_set ?_ GE149.out) | exact HB.out)) hb); clear HO_5; clear HO_6; clear BK147; clear BK149; clear HB; have HO_5 := n0_; have HO_6 := n1_; have BK147 := n2_; have BK149 := n3_; have HB := n4_; clear n0_ n1_ n2_ n3_ n4_; (try clear hb); (try clear hb2); (try clear hk); (try clear hi)) | ((with_reducible refine gate_dst (N := 11) rfl ?_); refine box_event ?hg (N := 11) ?hd (cs := #[.string (⟨#[]⟩ : ByteArray), .string (⟨#[]⟩ : ByteArray), .int .i64 0, .bool false]) (t := 60) ?hr ?_; (case hd => rfl); (case hg => rfl); (case hr => first | (go_simp; done) | (go_simp; rfl)); intro gb173 hg w52 hbox hb; have n0_ := Aside0.mk (Kd.R_below (by (with_reducible repeat (first | apply Kd.R_alloc | apply Kd.R_drewN | apply Kd.R_drew)); exact HO_5.out) hb); have n1_ := Aside0.mk (Kd.R_below (by (with_reducible repeat (first | apply Kd.R_alloc | apply Kd.R_drewN | apply Kd.R_drew)); exact HO_6.out) hb); have n2_ := Aside0.mk (blk_below (g := gb147) (o := .cells #[.string x148000_1, .string x148001_1, .int .i64 x148002_1, .bool x148003_1] 60 (0, 0)) (by (with_reducible repeat (first | refine blk_drewN ?_ _ | refine blk_drew ?_ | refine blk_alloc ?_ _)); exact BK147.out) hb); have n3_ := Aside0.mk (blk_below (g := gb149) (o := .cells #[.int .i64 ((rd_T76 l0 x7_1).f0), .int .i64 ((rd_T76 l0 x7_1).f1), .string ((rd_T76 l0 x7_1).f2)] 76 (0, 0)) (by (with_reducible repeat (first | refine blk_drewN ?_ _ | refine blk_drew ?_ | refine blk_alloc ?_ _)); exact BK149.out) hb); have n4_ := Aside0.mk (below_step (by repeat (first | (with_reducible first | exact HB.out | apply below_alloc | apply pw_below_drewN | apply below_drew1 | refine below_set ?_ GE147.out | refine below_set ?_ GE149.out) | exact HB.out)) hb); have n5_ := Aside0.mk (hbox); have n6_ := Aside0.mk ((by rw [hg]; exact (below_size (by repeat (first | (with_reducible first | exact HB.out | apply below_alloc | apply pw_below_drewN | apply below_drew1 | refine below_set ?_ GE147.out | refine below_set ?_ GE149.out) | exact HB.out))) : w.heap.size ≤ gb173)); have n7_ := Aside0.mk ((by rw [hg]; exact (below_size (by repeat (first | (with_reducible first | exact HB.out | apply below_alloc | apply pw_below_drewN | apply below_drew1 | refine below_set ?_ GE147.out | refine below_set ?_ GE149.out) | exact HB.out))) : w.heap.size ≤ gb173)); have n8_ := Aside0.mk ((by rw [hg]; exact Nat.ne_of_lt (blk_lt (g := gb147) (o := .cells #[.string x148000_1, .string x148001_1, .int .i64 x148002_1, .bool x148003_1] 60 (0, 0)) (by (with_reducible repeat (first | refine blk_drewN ?_ _ | refine blk_drew ?_ | refine blk_alloc ?_ _)); exact BK147.out)) : gb147 ≠ gb173)); have n9_ := Aside0.mk ((by rw [hg]; exact Nat.ne_of_gt (blk_lt (g := gb147) (o := .cells #[.string x148000_1, .string x148001_1, .int .i64 x148002_1, .bool x148003_1] 60 (0, 0)) (by (with_reducible repeat (first | refine blk_drewN ?_ _ | refine blk_drew ?_ | refine blk_alloc ?_ _)); exact BK147.out)) : gb173 ≠ gb147)); have n10_ := Aside0.mk ((by rw [hg]; exact Nat.ne_of_lt (blk_lt (g := gb149) (o := .cells #[.int .i64 ((rd_T76 l0 x7_1).f0), .int .i64 ((rd_T76 l0 x7_1).f1), .string ((rd_T76 l0 x7_1).f2)] 76 (0, 0)) (by (with_reducible repeat (first | refine blk_drewN ?_ _ | refine blk_drew ?_ | refine blk_alloc ?_ _)); exact BK149.out)) : gb149 ≠ gb173)); have n11_ := Aside0.mk ((by rw [hg]; exact Nat.ne_of_gt (blk_lt (g := gb149) (o := .cells #[.int .i64 ((rd_T76 l0 x7_1).f0), .int .i64 ((rd_T76 l0 x7_1).f1), .string ((rd_T76 l0 x7_1).f2)] 76 (0, 0)) (by (with_reducible repeat (first | refine blk_drewN ?_ _ | refine blk_drew ?_ | refine blk_alloc ?_ _)); exact BK149.out)) : gb173 ≠ gb149)); clear HO_5; clear HO_6; clear BK147; clear BK149; clear HB; have HO_5 := n0_; have HO_6 := n1_; have BK147 := n2_; have BK149 := n3_; have HB := n4_; have BK173 := n5_; have GW173 := n6_; have GE173 := n7_; have NB147_173 := n8_; have NB173_147 := n9_; have NB149_173 := n10_; have NB173_149 := n11_; clear n0_ n1_ n2_ n3_ n4_ n5_ n6_ n7_ n8_ n9_ n10_ n11_; clear hb hbox hg; have hnb53 := NB173_147.out; have hnc53 := NB147_173.out; have hnb54 := NB173_149.out; have hnc54 := NB149_173.out; have hcz55_0 : w52.cell? ⟨gb173, 0, none⟩ = some (.string (⟨#[]⟩ : ByteArray)) := (blk_cell BK173.out 0).trans rfl; have hcz55_1 : w52.cell? ⟨gb173, 1, none⟩ = some (.string (⟨#[]⟩ : ByteArray)) := (blk_cell BK173.out 1).trans rfl; have hcz55_2 : w52.cell? ⟨gb173, 2, none⟩ = some (.int .i64 0) := (blk_cell BK173.out 2).trans rfl; have hcz55_3 : w52.cell? ⟨gb173, 3, none⟩ = some (.bool false) := (blk_cell BK173.out 3).trans rfl; have hfz55_0 := blk_frozen BK173.out 0; have hfz55_1 := blk_frozen BK173.out 1; have hfz55_2 := blk_frozen BK173.out 2; have hfz55_3 := blk_frozen BK173.out 3; have hcz56_0 : w52.cell? ⟨gb147, 0, none⟩ = some (.string x148000_1) := (blk_cell BK147.out 0).trans rfl; have hcz56_1 : w52.cell? ⟨gb147, 1, none⟩ = some (.string x148001_1) := (blk_cell BK147.out 1).trans rfl; have hcz56_2 : w52.cell? ⟨gb147, 2, none⟩ = some (.int .i64 x148002_1) := (blk_cell BK147.out 2).trans rfl; have hcz56_3 : w52.cell? ⟨gb147, 3, none⟩ = some (.bool x148003_1) := (blk_cell BK147.out 3).trans rfl; have hfz56_0 := blk_frozen BK147.out 0; have hfz56_1 := blk_frozen BK147.out 1; have hfz56_2 := blk_frozen BK147.out 2; have hfz56_3 := blk_frozen BK147.out 3))
                  go_meet
                  case rel => exact ⟨_, (x6_1), (x6_1), (t168), (t169), (t170), (t171), H', ⟨by have := HK1.out; first | omega | exact Nat.le_refl _⟩, ⟨by (with_reducible repeat (first | apply Kd.R_alloc | apply Kd.R_drewN | apply Kd.R_drew)); exact Kd.R_mono (Kd.R_far (p := ⟨gb147, 3, none⟩) (Kd.R_far (p := ⟨gb147, 2, none⟩) (Kd.R_far (p := ⟨gb147, 1, none⟩) (Kd.R_far (p := ⟨gb147, 0, none⟩) (Kd.R_far (p := ⟨gb173, 3, none⟩) (Kd.R_far (p := ⟨gb173, 2, none⟩) (Kd.R_far (p := ⟨gb173, 1, none⟩) (Kd.R_far (p := ⟨gb173, 0, none⟩) (Kd.R_types (Kd.R_types HO_6.out BK173.out (by decide)) BK147.out (by decide)) (fun _ hk => hk.1.2) (.string t168)) (fun _ hk => hk.1.2) (.string t169)) (fun _ hk => hk.1.2) (.int .i64 t170)) (fun _ hk => hk.1.2) (.bool t171)) (fun _ hk => hk.2) (.string t168)) (fun _ hk => hk.2) (.string t169)) (fun _ hk => hk.2) (.int .i64 t170)) (fun _ hk => hk.2) (.bool t171)) (fun _ hk => trivial)⟩, ⟨by (with_reducible repeat (first | apply Kd.R_alloc | apply Kd.R_drewN | apply Kd.R_drew)); exact Kd.R_mono (Kd.R_far (p := ⟨gb147, 3, none⟩) (Kd.R_far (p := ⟨gb147, 2, none⟩) (Kd.R_far (p := ⟨gb147, 1, none⟩) (Kd.R_far (p := ⟨gb147, 0, none⟩) (Kd.R_far (p := ⟨gb173, 3, none⟩) (Kd.R_far (p := ⟨gb173, 2, none⟩) (Kd.R_far (p := ⟨gb173, 1, none⟩) (Kd.R_far (p := ⟨gb173, 0, none⟩) (Kd.R_types (Kd.R_types HO_6.out BK173.out (by decide)) BK147.out (by decide)) (fun _ hk => hk.1.2) (.string t168)) (fun _ hk => hk.1.2) (.string t169)) (fun _ hk => hk.1.2) (.int .i64 t170)) (fun _ hk => hk.1.2) (.bool t171)) (fun _ hk => hk.2) (.string t168)) (fun _ hk => hk.2) (.string t169)) (fun _ hk => hk.2) (.int .i64 t170)) (fun _ hk => hk.2) (.bool t171)) (fun _ hk => trivial)⟩, ⟨by (with_reducible repeat (first | refine blk_drewN ?_ _ | refine blk_drew ?_ | refine blk_alloc ?_ _)); refine blk_put (cs := #[.string t168, .string t169, .int .i64 t170, .bool x148003_1]) ?_ 3 _ rfl; (with_reducible repeat (first | refine blk_drewN ?_ _ | refine blk_drew ?_ | refine blk_alloc ?_ _)); refine blk_put (cs := #[.string t168, .string t169, .int .i64 x148002_1, .bool x148003_1]) ?_ 2 _ rfl; (with_reducible repeat (first | refine blk_drewN ?_ _ | refine blk_drew ?_ | refine blk_alloc ?_ _)); refine blk_put (cs := #[.string t168, .string x148001_1, .int .i64 x148002_1, .bool x148003_1]) ?_ 1 _ rfl; (with_reducible repeat (first | refine blk_drewN ?_ _ | refine blk_drew ?_ | refine blk_alloc ?_ _)); refine blk_put (cs := #[.string x148000_1, .string x148001_1, .int .i64 x148002_1, .bool x148003_1]) ?_ 0 _ rfl; (with_reducible repeat (first | refine blk_drewN ?_ _ | refine blk_drew ?_ | refine blk_alloc ?_ _)); refine blk_far ?_ NB147_173.out _; (with_reducible repeat (first | refine blk_drewN ?_ _ | refine blk_drew ?_ | refine blk_alloc ?_ _)); refine blk_far ?_ NB147_173.out _; (with_reducible repeat (first | refine blk_drewN ?_ _ | refine blk_drew ?_ | refine blk_alloc ?_ _)); refine blk_far ?_ NB147_173.out _; (with_reducible repeat (first | refine blk_drewN ?_ _ | refine blk_drew ?_ | refine blk_alloc ?_ _)); refine blk_far ?_ NB147_173.out _; (with_reducible repeat (first | refine blk_drewN ?_ _ | refine blk_drew ?_ | refine blk_alloc ?_ _)); exact BK147.out⟩, ⟨by (with_reducible repeat (first | refine blk_drewN ?_ _ | refine blk_drew ?_ | refine blk_alloc ?_ _)); refine blk_far ?_ NB149_147.out _; (with_reducible repeat (first | refine blk_drewN ?_ _ | refine blk_drew ?_ | refine blk_alloc ?_ _)); refine blk_far ?_ NB149_147.out _; (with_reducible repeat (first | refine blk_drewN ?_ _ | refine blk_drew ?_ | refine blk_alloc ?_ _)); refine blk_far ?_ NB149_147.out _; (with_reducible repeat (first | refine blk_drewN ?_ _ | refine blk_drew ?_ | refine blk_alloc ?_ _)); refine blk_far ?_ NB149_147.out _; (with_reducible repeat (first | refine blk_drewN ?_ _ | refine blk_drew ?_ | refine blk_alloc ?_ _)); refine blk_far ?_ NB149_173.out _; (with_reducible repeat (first | refine blk_drewN ?_ _ | refine blk_drew ?_ | refine blk_alloc ?_ _)); refine blk_far ?_ NB149_173.out _; (with_reducible repeat (first | refine blk_drewN ?_ _ | refine blk_drew ?_ | refine blk_alloc ?_ _)); refine blk_far ?_ NB149_173.out _; (with_reducible repeat (first | refine blk_drewN ?_ _ | refine blk_drew ?_ | refine blk_alloc ?_ _)); refine blk_far ?_ NB149_173.out _; (with_reducible repeat (first | refine blk_drewN ?_ _ | refine blk_drew ?_ | refine blk_alloc ?_ _)); exact BK149.out⟩, ⟨by repeat (first | (with_reducible first | exact HB.out | apply below_alloc | apply pw_below_drewN | apply below_drew1 | refine below_set ?_ GE147.out | refine below_set ?_ GE149.out | refine below_set ?_ GE173.out) | exact HB.out)⟩⟩
                · rw [if_neg c48] at H
                  have c48b0 : (t172 == 0) = false := beq_eq_false_iff_ne.mpr c48
                  have c48b1 : (t172 != 0) = true := bne_iff_ne.mpr c48
                  have H' := Aside0.mk H
                  clear H
                  have hnb57 := NB147_149.out
                  have hnc57 := NB149_147.out
                  have hcz58_0 : w9.cell? ⟨gb147, 0, none⟩ = some (.string x148000_1) := (blk_cell BK147.out 0).trans rfl
                  have hcz58_1 : w9.cell? ⟨gb147, 1, none⟩ = some (.string x148001_1) := (blk_cell BK147.out 1).trans rfl
                  have hcz58_2 : w9.cell? ⟨gb147, 2, none⟩ = some (.int .i64 x148002_1) := (blk_cell BK147.out 2).trans rfl
                  have hcz58_3 : w9.cell? ⟨gb147, 3, none⟩ = some (.bool x148003_1) := (blk_cell BK147.out 3).trans rfl
                  have hfz58_0 := blk_frozen BK147.out 0
                  have hfz58_1 := blk_frozen BK147.out 1
                  have hfz58_2 := blk_frozen BK147.out 2
                  have hfz58_3 := blk_frozen BK147.out 3
                  go_wp2_with (first | ((with_reducible refine gate_callee (f := 38) rfl ?_); refine goesL_ (some 52) rfl rfl Try.func38 (by kernel_rfl) rfl #[.agg #[.string x148000_1, .string x148001_1, .int .i64 x148002_1, .bool x148003_1]] rfl (by (try simp only [List.map_toArray, List.map_cons, List.map_nil]); first | done | rfl | (simp only [List.length_drop, List.length_take]; rfl)) ?_; (with_reducible refine (paper_Sync.calls x148000_1 x148001_1 x148002_1 x148003_1 t168 t169 t170 t171 t172 _ A47.out).mono ?_); rintro e w59 ⟨rfl, hb⟩; refine ⟨_, rfl, ?_⟩; have n0_ := Aside0.mk (Kd.R_below (by (with_reducible repeat (first | apply Kd.R_alloc | apply Kd.R_drewN | apply Kd.R_drew)); exact (Kd.R_mono (Kd.R_far (p := ⟨gb149, 2, none⟩) (Kd.R_far (p := ⟨gb149, 1, none⟩) (Kd.R_far (p := ⟨gb149, 0, none⟩) (Kd.R_types HO_5.out BK149.out (by decide)) (fun _ hk => hk.2) (.int .i64 ((rd_T76 l0 x7_1).f0))) (fun _ hk => hk.2) (.int .i64 ((rd_T76 l0 x7_1).f1))) (fun _ hk => hk.2) (.string ((rd_T76 l0 x7_1).f2))) (fun _ h_ => h_.1))) hb); have n1_ := Aside0.mk (Kd.R_below (by (with_reducible repeat (first | apply Kd.R_alloc | apply Kd.R_drewN | apply Kd.R_drew)); exact (Kd.R_mono (Kd.R_far (p := ⟨gb149, 2, none⟩) (Kd.R_far (p := ⟨gb149, 1, none⟩) (Kd.R_far (p := ⟨gb149, 0, none⟩) (Kd.R_types HO_6.out BK149.out (by decide)) (fun _ hk => hk.2) (.int .i64 ((rd_T76 l0 x7_1).f0))) (fun _ hk => hk.2) (.int .i64 ((rd_T76 l0 x7_1).f1))) (fun _ hk => hk.2) (.string ((rd_T76 l0 x7_1).f2))) (fun _ h_ => h_.1))) hb); have n2_ := Aside0.mk (blk_below (g := gb147) (o := .cells #[.string x148000_1, .string x148001_1, .int .i64 x148002_1, .bool x148003_1] 60 (0, 0)) (by (with_reducible repeat (first | refine blk_drewN ?_ _ | refine blk_drew ?_ | refine blk_alloc ?_ _)); refine blk_far ?_ NB147_149.out _; (with_reducible repeat (first | refine blk_drewN ?_ _ | refine blk_drew ?_ | refine blk_alloc ?_ _)); refine blk_far ?_ NB147_149.out _; (with_reducible repeat (first | refine blk_drewN ?_ _ | refine blk_drew ?_ | refine blk_alloc ?_ _)); refine blk_far ?_ NB147_149.out _; (with_reducible repeat (first | refine blk_drewN ?_ _ | refine blk_drew ?_ | refine blk_alloc ?_ _)); exact BK147.out) hb); have n3_ := Aside0.mk (blk_below (g := gb149) (o := .cells #[.int .i64 ((rd_T76 l0 x7_1).f0), .int .i64 ((rd_T76 l0 x7_1).f1), .string ((rd_T76 l0 x7_1).f2)] 76 (0, 0)) (by (with_reducible repeat (first | refine blk_drewN ?_ _ | refine blk_drew ?_ | refine blk_alloc ?_ _)); refine blk_put (cs := #[.int .i64 ((rd_T76 l0 x7_1).f0), .int .i64 ((rd_T76 l0 x7_1).f1), .string (⟨#[]⟩ : ByteArray)]) ?_ 2 _ rfl; (with_reducible repeat (first | refine blk_drewN ?_ _ | refine blk_drew ?_ | refine blk_alloc ?_ _)); refine blk_put (cs := #[.int .i64 ((rd_T76 l0 x7_1).f0), .int .i64 0, .string (⟨#[]⟩ : ByteArray)]) ?_ 1 _ rfl; (with_reducible repeat (first | refine blk_drewN ?_ _ | refine blk_drew ?_ | refine blk_alloc ?_ _)); refine blk_put (cs := #[.int .i64 0, .int .i64 0, .string (⟨#[]⟩ : ByteArray)]) ?_ 0 _ rfl; (with_reducible repeat (first | refine blk_drewN ?_ _ | refine blk_drew ?_ | refine blk_alloc ?_ _)); exact BK149.out) hb); have n4_ := Aside0.mk (below_step (by repeat (first | (with_reducible first | exact HB.out | apply below_alloc | apply pw_below_drewN | apply below_drew1 | refine below_set ?_ GE147.out | refine below_set ?_ GE149.out) | exact HB.out)) hb); clear HO_5; clear HO_6; clear BK147; clear BK149; clear HB; have HO_5 := n0_; have HO_6 := n1_; have BK147 := n2_; have BK149 := n3_; have HB := n4_; clear n0_ n1_ n2_ n3_ n4_; (try clear hb); (try clear hb2); (try clear hk); (try clear hi)) | ((with_reducible refine gate_dst (N := 11) rfl ?_); refine box_event ?hg (N := 11) ?hd (cs := #[.string (⟨#[]⟩ : ByteArray), .string (⟨#[]⟩ : ByteArray), .int .i64 0, .bool false]) (t := 60) ?hr ?_; (case hd => rfl); (case hg => rfl); (case hr => first | (go_simp; done) | (go_simp; rfl)); intro gb173 hg w60 hbox hb; have n0_ := Aside0.mk (Kd.R_below (by (with_reducible repeat (first | apply Kd.R_alloc | apply Kd.R_drewN | apply Kd.R_drew)); exact HO_5.out) hb); have n1_ := Aside0.mk (Kd.R_below (by (with_reducible repeat (first | apply Kd.R_alloc | apply Kd.R_drewN | apply Kd.R_drew)); exact HO_6.out) hb); have n2_ := Aside0.mk (blk_below (g := gb147) (o := .cells #[.string x148000_1, .string x148001_1, .int .i64 x148002_1, .bool x148003_1] 60 (0, 0)) (by (with_reducible repeat (first | refine blk_drewN ?_ _ | refine blk_drew ?_ | refine blk_alloc ?_ _)); exact BK147.out) hb); have n3_ := Aside0.mk (blk_below (g := gb149) (o := .cells #[.int .i64 ((rd_T76 l0 x7_1).f0), .int .i64 ((rd_T76 l0 x7_1).f1), .string ((rd_T76 l0 x7_1).f2)] 76 (0, 0)) (by (with_reducible repeat (first | refine blk_drewN ?_ _ | refine blk_drew ?_ | refine blk_alloc ?_ _)); exact BK149.out) hb); have n4_ := Aside0.mk (below_step (by repeat (first | (with_reducible first | exact HB.out | apply below_alloc | apply pw_below_drewN | apply below_drew1 | refine below_set ?_ GE147.out | refine below_set ?_ GE149.out) | exact HB.out)) hb); have n5_ := Aside0.mk (hbox); have n6_ := Aside0.mk ((by rw [hg]; exact (below_size (by repeat (first | (with_reducible first | exact HB.out | apply below_alloc | apply pw_below_drewN | apply below_drew1 | refine below_set ?_ GE147.out | refine below_set ?_ GE149.out) | exact HB.out))) : w.heap.size ≤ gb173)); have n7_ := Aside0.mk ((by rw [hg]; exact (below_size (by repeat (first | (with_reducible first | exact HB.out | apply below_alloc | apply pw_below_drewN | apply below_drew1 | refine below_set ?_ GE147.out | refine below_set ?_ GE149.out) | exact HB.out))) : w.heap.size ≤ gb173)); have n8_ := Aside0.mk ((by rw [hg]; exact Nat.ne_of_lt (blk_lt (g := gb147) (o := .cells #[.string x148000_1, .string x148001_1, .int .i64 x148002_1, .bool x148003_1] 60 (0, 0)) (by (with_reducible repeat (first | refine blk_drewN ?_ _ | refine blk_drew ?_ | refine blk_alloc ?_ _)); exact BK147.out)) : gb147 ≠ gb173)); have n9_ := Aside0.mk ((by rw [hg]; exact Nat.ne_of_gt (blk_lt (g := gb147) (o := .cells #[.string x148000_1, .string x148001_1, .int .i64 x148002_1, .bool x148003_1] 60 (0, 0)) (by (with_reducible repeat (first | refine blk_drewN ?_ _ | refine blk_drew ?_ | refine blk_alloc ?_ _)); exact BK147.out)) : gb173 ≠ gb147)); have n10_ := Aside0.mk ((by rw [hg]; exact Nat.ne_of_lt (blk_lt (g := gb149) (o := .cells #[.int .i64 ((rd_T76 l0 x7_1).f0), .int .i64 ((rd_T76 l0 x7_1).f1), .string ((rd_T76 l0 x7_1).f2)] 76 (0, 0)) (by (with_reducible repeat (first | refine blk_drewN ?_ _ | refine blk_drew ?_ | refine blk_alloc ?_ _)); exact BK149.out)) : gb149 ≠ gb173)); have n11_ := Aside0.mk ((by rw [hg]; exact Nat.ne_of_gt (blk_lt (g := gb149) (o := .cells #[.int .i64 ((rd_T76 l0 x7_1).f0), .int .i64 ((rd_T76 l0 x7_1).f1), .string ((rd_T76 l0 x7_1).f2)] 76 (0, 0)) (by (with_reducible repeat (first | refine blk_drewN ?_ _ | refine blk_drew ?_ | refine blk_alloc ?_ _)); exact BK149.out)) : gb173 ≠ gb149)); clear HO_5; clear HO_6; clear BK147; clear BK149; clear HB; have HO_5 := n0_; have HO_6 := n1_; have BK147 := n2_; have BK149 := n3_; have HB := n4_; have BK173 := n5_; have GW173 := n6_; have GE173 := n7_; have NB147_173 := n8_; have NB173_147 := n9_; have NB149_173 := n10_; have NB173_149 := n11_; clear n0_ n1_ n2_ n3_ n4_ n5_ n6_ n7_ n8_ n9_ n10_ n11_; clear hb hbox hg; have hnb61 := NB173_147.out; have hnc61 := NB147_173.out; have hnb62 := NB173_149.out; have hnc62 := NB149_173.out; have hcz63_0 : w60.cell? ⟨gb173, 0, none⟩ = some (.string (⟨#[]⟩ : ByteArray)) := (blk_cell BK173.out 0).trans rfl; have hcz63_1 : w60.cell? ⟨gb173, 1, none⟩ = some (.string (⟨#[]⟩ : ByteArray)) := (blk_cell BK173.out 1).trans rfl; have hcz63_2 : w60.cell? ⟨gb173, 2, none⟩ = some (.int .i64 0) := (blk_cell BK173.out 2).trans rfl; have hcz63_3 : w60.cell? ⟨gb173, 3, none⟩ = some (.bool false) := (blk_cell BK173.out 3).trans rfl; have hfz63_0 := blk_frozen BK173.out 0; have hfz63_1 := blk_frozen BK173.out 1; have hfz63_2 := blk_frozen BK173.out 2; have hfz63_3 := blk_frozen BK173.out 3; have hcz64_0 : w60.cell? ⟨gb147, 0, none⟩ = some (.string x148000_1) := (blk_cell BK147.out 0).trans rfl; have hcz64_1 : w60.cell? ⟨gb147, 1, none⟩ = some (.string x148001_1) := (blk_cell BK147.out 1).trans rfl; have hcz64_2 : w60.cell? ⟨gb147, 2, none⟩ = some (.int .i64 x148002_1) := (blk_cell BK147.out 2).trans rfl; have hcz64_3 : w60.cell? ⟨gb147, 3, none⟩ = some (.bool x148003_1) := (blk_cell BK147.out 3).trans rfl; have hfz64_0 := blk_frozen BK147.out 0; have hfz64_1 := blk_frozen BK147.out 1; have hfz64_2 := blk_frozen BK147.out 2; have hfz64_3 := blk_frozen BK147.out 3))
                  go_meet
                  case rel => exact ⟨_, (x5_1), (x6_1), (t168), (t169), (t170), (t171), H', ⟨by have := HK1.out; first | omega | exact Nat.le_refl _⟩, ⟨by (with_reducible repeat (first | apply Kd.R_alloc | apply Kd.R_drewN | apply Kd.R_drew)); exact Kd.R_mono (Kd.R_far (p := ⟨gb147, 3, none⟩) (Kd.R_far (p := ⟨gb147, 2, none⟩) (Kd.R_far (p := ⟨gb147, 1, none⟩) (Kd.R_far (p := ⟨gb147, 0, none⟩) (Kd.R_far (p := ⟨gb173, 3, none⟩) (Kd.R_far (p := ⟨gb173, 2, none⟩) (Kd.R_far (p := ⟨gb173, 1, none⟩) (Kd.R_far (p := ⟨gb173, 0, none⟩) (Kd.R_types (Kd.R_types HO_5.out BK173.out (by decide)) BK147.out (by decide)) (fun _ hk => hk.1.2) (.string t168)) (fun _ hk => hk.1.2) (.string t169)) (fun _ hk => hk.1.2) (.int .i64 t170)) (fun _ hk => hk.1.2) (.bool t171)) (fun _ hk => hk.2) (.string t168)) (fun _ hk => hk.2) (.string t169)) (fun _ hk => hk.2) (.int .i64 t170)) (fun _ hk => hk.2) (.bool t171)) (fun _ hk => hk.1.1)⟩, ⟨by (with_reducible repeat (first | apply Kd.R_alloc | apply Kd.R_drewN | apply Kd.R_drew)); exact Kd.R_mono (Kd.R_far (p := ⟨gb147, 3, none⟩) (Kd.R_far (p := ⟨gb147, 2, none⟩) (Kd.R_far (p := ⟨gb147, 1, none⟩) (Kd.R_far (p := ⟨gb147, 0, none⟩) (Kd.R_far (p := ⟨gb173, 3, none⟩) (Kd.R_far (p := ⟨gb173, 2, none⟩) (Kd.R_far (p := ⟨gb173, 1, none⟩) (Kd.R_far (p := ⟨gb173, 0, none⟩) (Kd.R_types (Kd.R_types HO_6.out BK173.out (by decide)) BK147.out (by decide)) (fun _ hk => hk.1.2) (.string t168)) (fun _ hk => hk.1.2) (.string t169)) (fun _ hk => hk.1.2) (.int .i64 t170)) (fun _ hk => hk.1.2) (.bool t171)) (fun _ hk => hk.2) (.string t168)) (fun _ hk => hk.2) (.string t169)) (fun _ hk => hk.2) (.int .i64 t170)) (fun _ hk => hk.2) (.bool t171)) (fun _ hk => hk.1.1)⟩, ⟨by (with_reducible repeat (first | refine blk_drewN ?_ _ | refine blk_drew ?_ | refine blk_alloc ?_ _)); refine blk_put (cs := #[.string t168, .string t169, .int .i64 t170, .bool x148003_1]) ?_ 3 _ rfl; (with_reducible repeat (first | refine blk_drewN ?_ _ | refine blk_drew ?_ | refine blk_alloc ?_ _)); refine blk_put (cs := #[.string t168, .string t169, .int .i64 x148002_1, .bool x148003_1]) ?_ 2 _ rfl; (with_reducible repeat (first | refine blk_drewN ?_ _ | refine blk_drew ?_ | refine blk_alloc ?_ _)); refine blk_put (cs := #[.string t168, .string x148001_1, .int .i64 x148002_1, .bool x148003_1]) ?_ 1 _ rfl; (with_reducible repeat (first | refine blk_drewN ?_ _ | refine blk_drew ?_ | refine blk_alloc ?_ _)); refine blk_put (cs := #[.string x148000_1, .string x148001_1, .int .i64 x148002_1, .bool x148003_1]) ?_ 0 _ rfl; (with_reducible repeat (first | refine blk_drewN ?_ _ | refine blk_drew ?_ | refine blk_alloc ?_ _)); refine blk_far ?_ NB147_173.out _; (with_reducible repeat (first | refine blk_drewN ?_ _ | refine blk_drew ?_ | refine blk_alloc ?_ _)); refine blk_far ?_ NB147_173.out _; (with_reducible repeat (first | refine blk_drewN ?_ _ | refine blk_drew ?_ | refine blk_alloc ?_ _)); refine blk_far ?_ NB147_173.out _; (with_reducible repeat (first | refine blk_drewN ?_ _ | refine blk_drew ?_ | refine blk_alloc ?_ _)); refine blk_far ?_ NB147_173.out _; (with_reducible repeat (first | refine blk_drewN ?_ _ | refine blk_drew ?_ | refine blk_alloc ?_ _)); exact BK147.out⟩, ⟨by (with_reducible repeat (first | refine blk_drewN ?_ _ | refine blk_drew ?_ | refine blk_alloc ?_ _)); refine blk_far ?_ NB149_147.out _; (with_reducible repeat (first | refine blk_drewN ?_ _ | refine blk_drew ?_ | refine blk_alloc ?_ _)); refine blk_far ?_ NB149_147.out _; (with_reducible repeat (first | refine blk_drewN ?_ _ | refine blk_drew ?_ | refine blk_alloc ?_ _)); refine blk_far ?_ NB149_147.out _; (with_reducible repeat (first | refine blk_drewN ?_ _ | refine blk_drew ?_ | refine blk_alloc ?_ _)); refine blk_far ?_ NB149_147.out _; (with_reducible repeat (first | refine blk_drewN ?_ _ | refine blk_drew ?_ | refine blk_alloc ?_ _)); refine blk_far ?_ NB149_173.out _; (with_reducible repeat (first | refine blk_drewN ?_ _ | refine blk_drew ?_ | refine blk_alloc ?_ _)); refine blk_far ?_ NB149_173.out _; (with_reducible repeat (first | refine blk_drewN ?_ _ | refine blk_drew ?_ | refine blk_alloc ?_ _)); refine blk_far ?_ NB149_173.out _; (with_reducible repeat (first | refine blk_drewN ?_ _ | refine blk_drew ?_ | refine blk_alloc ?_ _)); refine blk_far ?_ NB149_173.out _; (with_reducible repeat (first | refine blk_drewN ?_ _ | refine blk_drew ?_ | refine blk_alloc ?_ _)); exact BK149.out⟩, ⟨by repeat (first | (with_reducible first | exact HB.out | apply below_alloc | apply pw_below_drewN | apply below_drew1 | refine below_set ?_ GE147.out | refine below_set ?_ GE149.out | refine below_set ?_ GE173.out) | exact HB.out)⟩⟩
              · rw [if_neg c46] at H
                have c46b0 : (((rd_T76 l0 x7_1).f0) == 2) = false := beq_eq_false_iff_ne.mpr c46
                have c46b1 : (((rd_T76 l0 x7_1).f0) != 2) = true := bne_iff_ne.mpr c46
                by_cases c65 : ((rd_T76 l0 x7_1).f0) = 3
                · rw [if_pos c65] at H
                  have c65b0 : (((rd_T76 l0 x7_1).f0) == 3) = true := beq_iff_eq.mpr c65
                  have c65b1 : (((rd_T76 l0 x7_1).f0) != 3) = false := bne_eq_false_iff_eq.mpr c65
                  clear c65
                  replace H := Option.bind_eq_some_iff.mp H
                  obtain ⟨⟨t174, t175, t176, t177⟩, A660, H⟩ := H
                  replace H : ((paper_Records.f k1 t174 t175 t176 t177).bind fun t178 => ((selvedgelaw17_begins.f k1 x5_1 t178).bind fun t181 => (if t181 = true then ((selvedgelaw17_begins.f k1 t178 x6_1).bind fun t182 => (if t182 = true then (selvedgelaw17_PaperLasts.j1 k1 l0 t146 t178 t178 x7_1 t174 t175 t176 t177) else (some false))) else (some false)))) = some r := H
                  have A66 := Aside0.mk A660
                  clear A660
                  replace H := Option.bind_eq_some_iff.mp H
                  obtain ⟨t178, A670, H⟩ := H
                  replace H : ((selvedgelaw17_begins.f k1 x5_1 t178).bind fun t181 => (if t181 = true then ((selvedgelaw17_begins.f k1 t178 x6_1).bind fun t182 => (if t182 = true then (selvedgelaw17_PaperLasts.j1 k1 l0 t146 t178 t178 x7_1 t174 t175 t176 t177) else (some false))) else (some false))) = some r := H
                  have A67 := Aside0.mk A670
                  clear A670
                  replace H := Option.bind_eq_some_iff.mp H
                  obtain ⟨t181, A680, H⟩ := H
                  replace H : (if t181 = true then ((selvedgelaw17_begins.f k1 t178 x6_1).bind fun t182 => (if t182 = true then (selvedgelaw17_PaperLasts.j1 k1 l0 t146 t178 t178 x7_1 t174 t175 t176 t177) else (some false))) else (some false)) = some r := H
                  have A68 := Aside0.mk A680
                  clear A680
                  by_cases c69 : t181 = true
                  · subst c69
                    have H1 : ((selvedgelaw17_begins.f k1 t178 x6_1).bind fun t182 => (if t182 = true then (selvedgelaw17_PaperLasts.j1 k1 l0 t146 t178 t178 x7_1 t174 t175 t176 t177) else (some false))) = some r := by rw [if_pos rfl] at H; exact H
                    clear H
                    have H := H1
                    clear H1
                    replace H := Option.bind_eq_some_iff.mp H
                    obtain ⟨t182, A700, H⟩ := H
                    replace H : (if t182 = true then (selvedgelaw17_PaperLasts.j1 k1 l0 t146 t178 t178 x7_1 t174 t175 t176 t177) else (some false)) = some r := H
                    have A70 := Aside0.mk A700
                    clear A700
                    by_cases c71 : t182 = true
                    · subst c71
                      have H1 : (selvedgelaw17_PaperLasts.j1 k1 l0 t146 t178 t178 x7_1 t174 t175 t176 t177) = some r := by rw [if_pos rfl] at H; exact H
                      clear H
                      have H := H1
                      clear H1
                      have H' := Aside0.mk H
                      clear H
                      have hnb72 := NB147_149.out
                      have hnc72 := NB149_147.out
                      have hcz73_0 : w9.cell? ⟨gb147, 0, none⟩ = some (.string x148000_1) := (blk_cell BK147.out 0).trans rfl
                      have hcz73_1 : w9.cell? ⟨gb147, 1, none⟩ = some (.string x148001_1) := (blk_cell BK147.out 1).trans rfl
                      have hcz73_2 : w9.cell? ⟨gb147, 2, none⟩ = some (.int .i64 x148002_1) := (blk_cell BK147.out 2).trans rfl
                      have hcz73_3 : w9.cell? ⟨gb147, 3, none⟩ = some (.bool x148003_1) := (blk_cell BK147.out 3).trans rfl
                      have hfz73_0 := blk_frozen BK147.out 0
                      have hfz73_1 := blk_frozen BK147.out 1
                      have hfz73_2 := blk_frozen BK147.out 2
                      have hfz73_3 := blk_frozen BK147.out 3
                      have hcz74_0 : w9.cell? ⟨gb149, 0, none⟩ = some (.int .i64 0) := (blk_cell BK149.out 0).trans rfl
                      have hcz74_1 : w9.cell? ⟨gb149, 1, none⟩ = some (.int .i64 0) := (blk_cell BK149.out 1).trans rfl
                      have hcz74_2 : w9.cell? ⟨gb149, 2, none⟩ = some (.string (⟨#[]⟩ : ByteArray)) := (blk_cell BK149.out 2).trans rfl
                      have hfz74_0 := blk_frozen BK149.out 0
                      have hfz74_1 := blk_frozen BK149.out 1
                      have hfz74_2 := blk_frozen BK149.out 2
                      go_wp2_with (first | ((with_reducible refine gate_callee (f := 39) rfl ?_); refine goesL_ (some 64) rfl rfl Try.func39 (by kernel_rfl) rfl #[.agg #[.string x148000_1, .string x148001_1, .int .i64 x148002_1, .bool x148003_1], .int .i64 ((rd_T76 l0 x7_1).f1)] rfl (by (try simp only [List.map_toArray, List.map_cons, List.map_nil]); first | done | rfl | (simp only [List.length_drop, List.length_take]; rfl)) ?_; (with_reducible refine (paper_Crash.calls k1 x148000_1 x148001_1 x148002_1 x148003_1 ((rd_T76 l0 x7_1).f1) t174 t175 t176 t177 _ A66.out).mono ?_); rintro e w75 ⟨rfl, hb⟩; refine ⟨_, rfl, ?_⟩; have n0_ := Aside0.mk (Kd.R_below (by (with_reducible repeat (first | apply Kd.R_alloc | apply Kd.R_drewN | apply Kd.R_drew)); exact (Kd.R_mono (Kd.R_far (p := ⟨gb149, 2, none⟩) (Kd.R_far (p := ⟨gb149, 1, none⟩) (Kd.R_far (p := ⟨gb149, 0, none⟩) (Kd.R_types HO_5.out BK149.out (by decide)) (fun _ hk => hk.2) (.int .i64 ((rd_T76 l0 x7_1).f0))) (fun _ hk => hk.2) (.int .i64 ((rd_T76 l0 x7_1).f1))) (fun _ hk => hk.2) (.string ((rd_T76 l0 x7_1).f2))) (fun _ h_ => h_.1))) hb); have n1_ := Aside0.mk (Kd.R_below (by (with_reducible repeat (first | apply Kd.R_alloc | apply Kd.R_drewN | apply Kd.R_drew)); exact (Kd.R_mono (Kd.R_far (p := ⟨gb149, 2, none⟩) (Kd.R_far (p := ⟨gb149, 1, none⟩) (Kd.R_far (p := ⟨gb149, 0, none⟩) (Kd.R_types HO_6.out BK149.out (by decide)) (fun _ hk => hk.2) (.int .i64 ((rd_T76 l0 x7_1).f0))) (fun _ hk => hk.2) (.int .i64 ((rd_T76 l0 x7_1).f1))) (fun _ hk => hk.2) (.string ((rd_T76 l0 x7_1).f2))) (fun _ h_ => h_.1))) hb); have n2_ := Aside0.mk (blk_below (g := gb147) (o := .cells #[.string x148000_1, .string x148001_1, .int .i64 x148002_1, .bool x148003_1] 60 (0, 0)) (by (with_reducible repeat (first | refine blk_drewN ?_ _ | refine blk_drew ?_ | refine blk_alloc ?_ _)); refine blk_far ?_ NB147_149.out _; (with_reducible repeat (first | refine blk_drewN ?_ _ | refine blk_drew ?_ | refine blk_alloc ?_ _)); refine blk_far ?_ NB147_149.out _; (with_reducible repeat (first | refine blk_drewN ?_ _ | refine blk_drew ?_ | refine blk_alloc ?_ _)); refine blk_far ?_ NB147_149.out _; (with_reducible repeat (first | refine blk_drewN ?_ _ | refine blk_drew ?_ | refine blk_alloc ?_ _)); exact BK147.out) hb); have n3_ := Aside0.mk (blk_below (g := gb149) (o := .cells #[.int .i64 ((rd_T76 l0 x7_1).f0), .int .i64 ((rd_T76 l0 x7_1).f1), .string ((rd_T76 l0 x7_1).f2)] 76 (0, 0)) (by (with_reducible repeat (first | refine blk_drewN ?_ _ | refine blk_drew ?_ | refine blk_alloc ?_ _)); refine blk_put (cs := #[.int .i64 ((rd_T76 l0 x7_1).f0), .int .i64 ((rd_T76 l0 x7_1).f1), .string (⟨#[]⟩ : ByteArray)]) ?_ 2 _ rfl; (with_reducible repeat (first | refine blk_drewN ?_ _ | refine blk_drew ?_ | refine blk_alloc ?_ _)); refine blk_put (cs := #[.int .i64 ((rd_T76 l0 x7_1).f0), .int .i64 0, .string (⟨#[]⟩ : ByteArray)]) ?_ 1 _ rfl; (with_reducible repeat (first | refine blk_drewN ?_ _ | refine blk_drew ?_ | refine blk_alloc ?_ _)); refine blk_put (cs := #[.int .i64 0, .int .i64 0, .string (⟨#[]⟩ : ByteArray)]) ?_ 0 _ rfl; (with_reducible repeat (first | refine blk_drewN ?_ _ | refine blk_drew ?_ | refine blk_alloc ?_ _)); exact BK149.out) hb); have n4_ := Aside0.mk (below_step (by repeat (first | (with_reducible first | exact HB.out | apply below_alloc | apply pw_below_drewN | apply below_drew1 | refine below_set ?_ GE147.out | refine below_set ?_ GE149.out) | exact HB.out)) hb); clear HO_5; clear HO_6; clear BK147; clear BK149; clear HB; have HO_5 := n0_; have HO_6 := n1_; have BK147 := n2_; have BK149 := n3_; have HB := n4_; clear n0_ n1_ n2_ n3_ n4_; (try clear hb); (try clear hb2); (try clear hk); (try clear hi); have hcz76_0 : w75.cell? ⟨gb147, 0, none⟩ = some (.string x148000_1) := (blk_cell BK147.out 0).trans rfl; have hcz76_1 : w75.cell? ⟨gb147, 1, none⟩ = some (.string x148001_1) := (blk_cell BK147.out 1).trans rfl; have hcz76_2 : w75.cell? ⟨gb147, 2, none⟩ = some (.int .i64 x148002_1) := (blk_cell BK147.out 2).trans rfl; have hcz76_3 : w75.cell? ⟨gb147, 3, none⟩ = some (.bool x148003_1) := (blk_cell BK147.out 3).trans rfl; have hfz76_0 := blk_frozen BK147.out 0; have hfz76_1 := blk_frozen BK147.out 1; have hfz76_2 := blk_frozen BK147.out 2; have hfz76_3 := blk_frozen BK147.out 3) | ((with_reducible refine gate_callee (f := 40) rfl ?_); refine goesL_ (some 66) rfl rfl Try.func40 (by kernel_rfl) rfl #[.agg #[.string t174, .string t175, .int .i64 t176, .bool t177]] rfl (by (try simp only [List.map_toArray, List.map_cons, List.map_nil]); first | done | rfl | (simp only [List.length_drop, List.length_take]; rfl)) ?_; (with_reducible refine (paper_Records.calls k1 t174 t175 t176 t177 t178 _ A67.out).mono ?_); rintro e w77 ⟨v179, rfl, ho0, hb⟩; refine ⟨_, rfl, ?_⟩; have n0_ := Aside0.mk (Kd.R_elder' (by (with_reducible repeat (first | apply Kd.R_alloc | apply Kd.R_drewN | apply Kd.R_drew)); exact (Kd.R_mono (Kd.R_far (p := ⟨gb147, 3, none⟩) (Kd.R_far (p := ⟨gb147, 2, none⟩) (Kd.R_far (p := ⟨gb147, 1, none⟩) (Kd.R_far (p := ⟨gb147, 0, none⟩) (Kd.R_types HO_5.out BK147.out (by decide)) (fun _ hk => hk.2) (.string t174)) (fun _ hk => hk.2) (.string t175)) (fun _ hk => hk.2) (.int .i64 t176)) (fun _ hk => hk.2) (.bool t177)) (fun _ h_ => h_.1))) (Kd.R_base ho0) hb); have n1_ := Aside0.mk (Kd.R_elder' (by (with_reducible repeat (first | apply Kd.R_alloc | apply Kd.R_drewN | apply Kd.R_drew)); exact (Kd.R_mono (Kd.R_far (p := ⟨gb147, 3, none⟩) (Kd.R_far (p := ⟨gb147, 2, none⟩) (Kd.R_far (p := ⟨gb147, 1, none⟩) (Kd.R_far (p := ⟨gb147, 0, none⟩) (Kd.R_types HO_6.out BK147.out (by decide)) (fun _ hk => hk.2) (.string t174)) (fun _ hk => hk.2) (.string t175)) (fun _ hk => hk.2) (.int .i64 t176)) (fun _ hk => hk.2) (.bool t177)) (fun _ h_ => h_.1))) (Kd.R_base ho0) hb); have n2_ := Aside0.mk (Kd.R_lower (Kd.R_new' (Kd.R_new' ho0 (Kd.R_lt (by (with_reducible repeat (first | apply Kd.R_alloc | apply Kd.R_drewN | apply Kd.R_drew)); exact (Kd.R_mono (Kd.R_far (p := ⟨gb147, 3, none⟩) (Kd.R_far (p := ⟨gb147, 2, none⟩) (Kd.R_far (p := ⟨gb147, 1, none⟩) (Kd.R_far (p := ⟨gb147, 0, none⟩) (Kd.R_types HO_5.out BK147.out (by decide)) (fun _ hk => hk.2) (.string t174)) (fun _ hk => hk.2) (.string t175)) (fun _ hk => hk.2) (.int .i64 t176)) (fun _ hk => hk.2) (.bool t177)) (fun _ h_ => h_.1))))) (Kd.R_lt (by (with_reducible repeat (first | apply Kd.R_alloc | apply Kd.R_drewN | apply Kd.R_drew)); exact (Kd.R_mono (Kd.R_far (p := ⟨gb147, 3, none⟩) (Kd.R_far (p := ⟨gb147, 2, none⟩) (Kd.R_far (p := ⟨gb147, 1, none⟩) (Kd.R_far (p := ⟨gb147, 0, none⟩) (Kd.R_types HO_6.out BK147.out (by decide)) (fun _ hk => hk.2) (.string t174)) (fun _ hk => hk.2) (.string t175)) (fun _ hk => hk.2) (.int .i64 t176)) (fun _ hk => hk.2) (.bool t177)) (fun _ h_ => h_.1))))) (below_size (by repeat (first | (with_reducible first | exact HB.out | apply below_alloc | apply pw_below_drewN | apply below_drew1 | refine below_set ?_ GE147.out | refine below_set ?_ GE149.out) | exact HB.out)))); have n3_ := Aside0.mk (blk_below (g := gb147) (o := .cells #[.string t174, .string t175, .int .i64 t176, .bool t177] 60 (0, 0)) (by (with_reducible repeat (first | refine blk_drewN ?_ _ | refine blk_drew ?_ | refine blk_alloc ?_ _)); refine blk_put (cs := #[.string t174, .string t175, .int .i64 t176, .bool x148003_1]) ?_ 3 _ rfl; (with_reducible repeat (first | refine blk_drewN ?_ _ | refine blk_drew ?_ | refine blk_alloc ?_ _)); refine blk_put (cs := #[.string t174, .string t175, .int .i64 x148002_1, .bool x148003_1]) ?_ 2 _ rfl; (with_reducible repeat (first | refine blk_drewN ?_ _ | refine blk_drew ?_ | refine blk_alloc ?_ _)); refine blk_put (cs := #[.string t174, .string x148001_1, .int .i64 x148002_1, .bool x148003_1]) ?_ 1 _ rfl; (with_reducible repeat (first | refine blk_drewN ?_ _ | refine blk_drew ?_ | refine blk_alloc ?_ _)); refine blk_put (cs := #[.string x148000_1, .string x148001_1, .int .i64 x148002_1, .bool x148003_1]) ?_ 0 _ rfl; (with_reducible repeat (first | refine blk_drewN ?_ _ | refine blk_drew ?_ | refine blk_alloc ?_ _)); exact BK147.out) hb); have n4_ := Aside0.mk (blk_below (g := gb149) (o := .cells #[.int .i64 ((rd_T76 l0 x7_1).f0), .int .i64 ((rd_T76 l0 x7_1).f1), .string ((rd_T76 l0 x7_1).f2)] 76 (0, 0)) (by (with_reducible repeat (first | refine blk_drewN ?_ _ | refine blk_drew ?_ | refine blk_alloc ?_ _)); refine blk_far ?_ NB149_147.out _; (with_reducible repeat (first | refine blk_drewN ?_ _ | refine blk_drew ?_ | refine blk_alloc ?_ _)); refine blk_far ?_ NB149_147.out _; (with_reducible repeat (first | refine blk_drewN ?_ _ | refine blk_drew ?_ | refine blk_alloc ?_ _)); refine blk_far ?_ NB149_147.out _; (with_reducible repeat (first | refine blk_drewN ?_ _ | refine blk_drew ?_ | refine blk_alloc ?_ _)); refine blk_far ?_ NB149_147.out _; (with_reducible repeat (first | refine blk_drewN ?_ _ | refine blk_drew ?_ | refine blk_alloc ?_ _)); exact BK149.out) hb); have n5_ := Aside0.mk (below_step (by repeat (first | (with_reducible first | exact HB.out | apply below_alloc | apply pw_below_drewN | apply below_drew1 | refine below_set ?_ GE147.out | refine below_set ?_ GE149.out) | exact HB.out)) hb); clear HO_5; clear HO_6; clear BK147; clear BK149; clear HB; have HO_5 := n0_; have HO_6 := n1_; have HO180 := n2_; have BK147 := n3_; have BK149 := n4_; have HB := n5_; clear n0_ n1_ n2_ n3_ n4_ n5_; (try clear hb); (try clear hb2); (try clear hk); (try clear hi); (try clear ho0); obtain ⟨Ao78, co78, eo78⟩ := Kd.R_slice HO_5.out; subst eo78; obtain ⟨Ao79, co79, eo79⟩ := Kd.R_slice HO180.out; subst eo79) | ((with_reducible refine gate_callee (f := 36) rfl ?_); refine goesL_ (some 69) rfl rfl Try.func36 (by kernel_rfl) rfl #[.slice Ao78 x5_1.length co78, .slice Ao79 t178.length co79] rfl (by (try simp only [List.map_toArray, List.map_cons, List.map_nil]); first | done | rfl | (simp only [List.length_drop, List.length_take]; rfl)) ?_; (with_reducible refine (selvedgelaw17_begins.calls k1 _ _ x5_1 _ _ t178 true _ ?side1 ?side2 ?side3 ?side4 A68.out).mono ?_); (case side1 => repeat (first | exact (Kd.R_reads' HO_5.out).2.2 | (with_reducible refine Kd.C_alloc ?_ _) | (with_reducible refine Kd.C_drewN ?_ _) | (with_reducible refine Kd.C_drew ?_))); (case side2 => exact (Kd.R_reads' HO_5.out).2.1); (case side3 => repeat (first | exact (Kd.R_reads' HO180.out).2.2 | (with_reducible refine Kd.C_alloc ?_ _) | (with_reducible refine Kd.C_drewN ?_ _) | (with_reducible refine Kd.C_drew ?_))); (case side4 => exact (Kd.R_reads' HO180.out).2.1); rintro e w' ⟨rfl, ⟨nd, rfl⟩⟩; refine ⟨_, rfl, ?_⟩; obtain ⟨Ao80, co80, eo80⟩ := Kd.R_slice HO_6.out; subst eo80) | (go_at_call 36; (with_reducible refine (selvedgelaw17_begins.calls k1 _ _ t178 _ _ x6_1 true _ ?side1 ?side2 ?side3 ?side4 A70.out).mono ?_); (case side1 => repeat (first | exact (Kd.R_reads' HO180.out).2.2 | (with_reducible refine Kd.C_alloc ?_ _) | (with_reducible refine Kd.C_drewN ?_ _) | (with_reducible refine Kd.C_drew ?_))); (case side2 => exact (Kd.R_reads' HO180.out).2.1); (case side3 => repeat (first | exact (Kd.R_reads' HO_6.out).2.2 | (with_reducible refine Kd.C_alloc ?_ _) | (with_reducible refine Kd.C_drewN ?_ _) | (with_reducible refine Kd.C_drew ?_))); (case side4 => exact (Kd.R_reads' HO_6.out).2.1); rintro e w' ⟨rfl, ⟨nd, rfl⟩⟩))
                      go_meet
                      case rel => exact ⟨_, (t178), (t178), (t174), (t175), (t176), (t177), H', ⟨by have := HK1.out; first | omega | exact Nat.le_refl _⟩, ⟨by (with_reducible repeat (first | apply Kd.R_alloc | apply Kd.R_drewN | apply Kd.R_drew)); exact Kd.R_mono HO180.out (fun _ hk => trivial)⟩, ⟨by (with_reducible repeat (first | apply Kd.R_alloc | apply Kd.R_drewN | apply Kd.R_drew)); exact Kd.R_mono HO180.out (fun _ hk => trivial)⟩, ⟨by (with_reducible repeat (first | refine blk_drewN ?_ _ | refine blk_drew ?_ | refine blk_alloc ?_ _)); exact BK147.out⟩, ⟨by (with_reducible repeat (first | refine blk_drewN ?_ _ | refine blk_drew ?_ | refine blk_alloc ?_ _)); exact BK149.out⟩, ⟨by repeat (first | (with_reducible first | exact HB.out | apply below_alloc | apply pw_below_drewN | apply below_drew1 | refine below_set ?_ GE147.out | refine below_set ?_ GE149.out) | exact HB.out)⟩⟩
                    · replace c71 := Bool.eq_false_iff.mpr c71
                      subst c71
                      have H1 : (some false) = some r := by rw [if_neg (show ¬ (false = true) by decide)] at H; exact H
                      exact absurd ((Option.some.inj H1).trans HRT_.out) (by decide)
                  · replace c69 := Bool.eq_false_iff.mpr c69
                    subst c69
                    have H1 : (some false) = some r := by rw [if_neg (show ¬ (false = true) by decide)] at H; exact H
                    exact absurd ((Option.some.inj H1).trans HRT_.out) (by decide)
                · rw [if_neg c65] at H
                  have c65b0 : (((rd_T76 l0 x7_1).f0) == 3) = false := beq_eq_false_iff_ne.mpr c65
                  have c65b1 : (((rd_T76 l0 x7_1).f0) != 3) = true := bne_iff_ne.mpr c65
                  by_cases c98 : ((rd_T76 l0 x7_1).f0) = 4
                  · rw [if_pos c98] at H
                    have c98b0 : (((rd_T76 l0 x7_1).f0) == 4) = true := beq_iff_eq.mpr c98
                    have c98b1 : (((rd_T76 l0 x7_1).f0) != 4) = false := bne_eq_false_iff_eq.mpr c98
                    clear c98
                    replace H := Option.bind_eq_some_iff.mp H
                    obtain ⟨⟨t183, t184, t185, t186⟩, A990, H⟩ := H
                    replace H : (selvedgelaw17_PaperLasts.j1 k1 l0 t146 x5_1 x6_1 x7_1 t183 t184 t185 t186) = some r := H
                    have A99 := Aside0.mk A990
                    clear A990
                    have H' := Aside0.mk H
                    clear H
                    have hnb100 := NB147_149.out
                    have hnc100 := NB149_147.out
                    have hcz101_0 : w9.cell? ⟨gb147, 0, none⟩ = some (.string x148000_1) := (blk_cell BK147.out 0).trans rfl
                    have hcz101_1 : w9.cell? ⟨gb147, 1, none⟩ = some (.string x148001_1) := (blk_cell BK147.out 1).trans rfl
                    have hcz101_2 : w9.cell? ⟨gb147, 2, none⟩ = some (.int .i64 x148002_1) := (blk_cell BK147.out 2).trans rfl
                    have hcz101_3 : w9.cell? ⟨gb147, 3, none⟩ = some (.bool x148003_1) := (blk_cell BK147.out 3).trans rfl
                    have hfz101_0 := blk_frozen BK147.out 0
                    have hfz101_1 := blk_frozen BK147.out 1
                    have hfz101_2 := blk_frozen BK147.out 2
                    have hfz101_3 := blk_frozen BK147.out 3
                    have hcz102_0 : w9.cell? ⟨gb149, 0, none⟩ = some (.int .i64 0) := (blk_cell BK149.out 0).trans rfl
                    have hcz102_1 : w9.cell? ⟨gb149, 1, none⟩ = some (.int .i64 0) := (blk_cell BK149.out 1).trans rfl
                    have hcz102_2 : w9.cell? ⟨gb149, 2, none⟩ = some (.string (⟨#[]⟩ : ByteArray)) := (blk_cell BK149.out 2).trans rfl
                    have hfz102_0 := blk_frozen BK149.out 0
                    have hfz102_1 := blk_frozen BK149.out 1
                    have hfz102_2 := blk_frozen BK149.out 2
                    go_wp2_with (first | ((with_reducible refine gate_callee (f := 45) rfl ?_); refine goesL_ (some 84) rfl rfl Try.func45 (by kernel_rfl) rfl #[.agg #[.string x148000_1, .string x148001_1, .int .i64 x148002_1, .bool x148003_1], .int .i64 ((rd_T76 l0 x7_1).f1)] rfl (by (try simp only [List.map_toArray, List.map_cons, List.map_nil]); first | done | rfl | (simp only [List.length_drop, List.length_take]; rfl)) ?_; (with_reducible refine (paper_Arm.calls x148000_1 x148001_1 x148002_1 x148003_1 ((rd_T76 l0 x7_1).f1) t183 t184 t185 t186 _ A99.out).mono ?_); rintro e w103 ⟨rfl, hb⟩; refine ⟨_, rfl, ?_⟩; have n0_ := Aside0.mk (Kd.R_below (by (with_reducible repeat (first | apply Kd.R_alloc | apply Kd.R_drewN | apply Kd.R_drew)); exact (Kd.R_mono (Kd.R_far (p := ⟨gb149, 2, none⟩) (Kd.R_far (p := ⟨gb149, 1, none⟩) (Kd.R_far (p := ⟨gb149, 0, none⟩) (Kd.R_types HO_5.out BK149.out (by decide)) (fun _ hk => hk.2) (.int .i64 ((rd_T76 l0 x7_1).f0))) (fun _ hk => hk.2) (.int .i64 ((rd_T76 l0 x7_1).f1))) (fun _ hk => hk.2) (.string ((rd_T76 l0 x7_1).f2))) (fun _ h_ => h_.1))) hb); have n1_ := Aside0.mk (Kd.R_below (by (with_reducible repeat (first | apply Kd.R_alloc | apply Kd.R_drewN | apply Kd.R_drew)); exact (Kd.R_mono (Kd.R_far (p := ⟨gb149, 2, none⟩) (Kd.R_far (p := ⟨gb149, 1, none⟩) (Kd.R_far (p := ⟨gb149, 0, none⟩) (Kd.R_types HO_6.out BK149.out (by decide)) (fun _ hk => hk.2) (.int .i64 ((rd_T76 l0 x7_1).f0))) (fun _ hk => hk.2) (.int .i64 ((rd_T76 l0 x7_1).f1))) (fun _ hk => hk.2) (.string ((rd_T76 l0 x7_1).f2))) (fun _ h_ => h_.1))) hb); have n2_ := Aside0.mk (blk_below (g := gb147) (o := .cells #[.string x148000_1, .string x148001_1, .int .i64 x148002_1, .bool x148003_1] 60 (0, 0)) (by (with_reducible repeat (first | refine blk_drewN ?_ _ | refine blk_drew ?_ | refine blk_alloc ?_ _)); refine blk_far ?_ NB147_149.out _; (with_reducible repeat (first | refine blk_drewN ?_ _ | refine blk_drew ?_ | refine blk_alloc ?_ _)); refine blk_far ?_ NB147_149.out _; (with_reducible repeat (first | refine blk_drewN ?_ _ | refine blk_drew ?_ | refine blk_alloc ?_ _)); refine blk_far ?_ NB147_149.out _; (with_reducible repeat (first | refine blk_drewN ?_ _ | refine blk_drew ?_ | refine blk_alloc ?_ _)); exact BK147.out) hb); have n3_ := Aside0.mk (blk_below (g := gb149) (o := .cells #[.int .i64 ((rd_T76 l0 x7_1).f0), .int .i64 ((rd_T76 l0 x7_1).f1), .string ((rd_T76 l0 x7_1).f2)] 76 (0, 0)) (by (with_reducible repeat (first | refine blk_drewN ?_ _ | refine blk_drew ?_ | refine blk_alloc ?_ _)); refine blk_put (cs := #[.int .i64 ((rd_T76 l0 x7_1).f0), .int .i64 ((rd_T76 l0 x7_1).f1), .string (⟨#[]⟩ : ByteArray)]) ?_ 2 _ rfl; (with_reducible repeat (first | refine blk_drewN ?_ _ | refine blk_drew ?_ | refine blk_alloc ?_ _)); refine blk_put (cs := #[.int .i64 ((rd_T76 l0 x7_1).f0), .int .i64 0, .string (⟨#[]⟩ : ByteArray)]) ?_ 1 _ rfl; (with_reducible repeat (first | refine blk_drewN ?_ _ | refine blk_drew ?_ | refine blk_alloc ?_ _)); refine blk_put (cs := #[.int .i64 0, .int .i64 0, .string (⟨#[]⟩ : ByteArray)]) ?_ 0 _ rfl; (with_reducible repeat (first | refine blk_drewN ?_ _ | refine blk_drew ?_ | refine blk_alloc ?_ _)); exact BK149.out) hb); have n4_ := Aside0.mk (below_step (by repeat (first | (with_reducible first | exact HB.out | apply below_alloc | apply pw_below_drewN | apply below_drew1 | refine below_set ?_ GE147.out | refine below_set ?_ GE149.out) | exact HB.out)) hb); clear HO_5; clear HO_6; clear BK147; clear BK149; clear HB; have HO_5 := n0_; have HO_6 := n1_; have BK147 := n2_; have BK149 := n3_; have HB := n4_; clear n0_ n1_ n2_ n3_ n4_; (try clear hb); (try clear hb2); (try clear hk); (try clear hi); have hcz104_0 : w103.cell? ⟨gb147, 0, none⟩ = some (.string x148000_1) := (blk_cell BK147.out 0).trans rfl; have hcz104_1 : w103.cell? ⟨gb147, 1, none⟩ = some (.string x148001_1) := (blk_cell BK147.out 1).trans rfl; have hcz104_2 : w103.cell? ⟨gb147, 2, none⟩ = some (.int .i64 x148002_1) := (blk_cell BK147.out 2).trans rfl; have hcz104_3 : w103.cell? ⟨gb147, 3, none⟩ = some (.bool x148003_1) := (blk_cell BK147.out 3).trans rfl; have hfz104_0 := blk_frozen BK147.out 0; have hfz104_1 := blk_frozen BK147.out 1; have hfz104_2 := blk_frozen BK147.out 2; have hfz104_3 := blk_frozen BK147.out 3))
                    go_meet
                    case rel => exact ⟨_, (x5_1), (x6_1), (t183), (t184), (t185), (t186), H', ⟨by have := HK1.out; first | omega | exact Nat.le_refl _⟩, ⟨by (with_reducible repeat (first | apply Kd.R_alloc | apply Kd.R_drewN | apply Kd.R_drew)); exact Kd.R_mono (Kd.R_far (p := ⟨gb147, 3, none⟩) (Kd.R_far (p := ⟨gb147, 2, none⟩) (Kd.R_far (p := ⟨gb147, 1, none⟩) (Kd.R_far (p := ⟨gb147, 0, none⟩) (Kd.R_types HO_5.out BK147.out (by decide)) (fun _ hk => hk.2) (.string t183)) (fun _ hk => hk.2) (.string t184)) (fun _ hk => hk.2) (.int .i64 t185)) (fun _ hk => hk.2) (.bool t186)) (fun _ hk => hk.1)⟩, ⟨by (with_reducible repeat (first | apply Kd.R_alloc | apply Kd.R_drewN | apply Kd.R_drew)); exact Kd.R_mono (Kd.R_far (p := ⟨gb147, 3, none⟩) (Kd.R_far (p := ⟨gb147, 2, none⟩) (Kd.R_far (p := ⟨gb147, 1, none⟩) (Kd.R_far (p := ⟨gb147, 0, none⟩) (Kd.R_types HO_6.out BK147.out (by decide)) (fun _ hk => hk.2) (.string t183)) (fun _ hk => hk.2) (.string t184)) (fun _ hk => hk.2) (.int .i64 t185)) (fun _ hk => hk.2) (.bool t186)) (fun _ hk => hk.1)⟩, ⟨by (with_reducible repeat (first | refine blk_drewN ?_ _ | refine blk_drew ?_ | refine blk_alloc ?_ _)); refine blk_put (cs := #[.string t183, .string t184, .int .i64 t185, .bool x148003_1]) ?_ 3 _ rfl; (with_reducible repeat (first | refine blk_drewN ?_ _ | refine blk_drew ?_ | refine blk_alloc ?_ _)); refine blk_put (cs := #[.string t183, .string t184, .int .i64 x148002_1, .bool x148003_1]) ?_ 2 _ rfl; (with_reducible repeat (first | refine blk_drewN ?_ _ | refine blk_drew ?_ | refine blk_alloc ?_ _)); refine blk_put (cs := #[.string t183, .string x148001_1, .int .i64 x148002_1, .bool x148003_1]) ?_ 1 _ rfl; (with_reducible repeat (first | refine blk_drewN ?_ _ | refine blk_drew ?_ | refine blk_alloc ?_ _)); refine blk_put (cs := #[.string x148000_1, .string x148001_1, .int .i64 x148002_1, .bool x148003_1]) ?_ 0 _ rfl; (with_reducible repeat (first | refine blk_drewN ?_ _ | refine blk_drew ?_ | refine blk_alloc ?_ _)); exact BK147.out⟩, ⟨by (with_reducible repeat (first | refine blk_drewN ?_ _ | refine blk_drew ?_ | refine blk_alloc ?_ _)); refine blk_far ?_ NB149_147.out _; (with_reducible repeat (first | refine blk_drewN ?_ _ | refine blk_drew ?_ | refine blk_alloc ?_ _)); refine blk_far ?_ NB149_147.out _; (with_reducible repeat (first | refine blk_drewN ?_ _ | refine blk_drew ?_ | refine blk_alloc ?_ _)); refine blk_far ?_ NB149_147.out _; (with_reducible repeat (first | refine blk_drewN ?_ _ | refine blk_drew ?_ | refine blk_alloc ?_ _)); refine blk_far ?_ NB149_147.out _; (with_reducible repeat (first | refine blk_drewN ?_ _ | refine blk_drew ?_ | refine blk_alloc ?_ _)); exact BK149.out⟩, ⟨by repeat (first | (with_reducible first | exact HB.out | apply below_alloc | apply pw_below_drewN | apply below_drew1 | refine below_set ?_ GE147.out | refine below_set ?_ GE149.out) | exact HB.out)⟩⟩
                  · rw [if_neg c98] at H
                    have c98b0 : (((rd_T76 l0 x7_1).f0) == 4) = false := beq_eq_false_iff_ne.mpr c98
                    have c98b1 : (((rd_T76 l0 x7_1).f0) != 4) = true := bne_iff_ne.mpr c98
                    have H' := Aside0.mk H
                    clear H
                    go_wp2
                    go_meet
                    case rel => exact ⟨_, (x5_1), (x6_1), (x148000_1), (x148001_1), (x148002_1), (x148003_1), H', ⟨by have := HK1.out; first | omega | exact Nat.le_refl _⟩, ⟨by (with_reducible repeat (first | apply Kd.R_alloc | apply Kd.R_drewN | apply Kd.R_drew)); exact Kd.R_mono (Kd.R_far (p := ⟨gb149, 2, none⟩) (Kd.R_far (p := ⟨gb149, 1, none⟩) (Kd.R_far (p := ⟨gb149, 0, none⟩) (Kd.R_types HO_5.out BK149.out (by decide)) (fun _ hk => hk.2) (.int .i64 ((rd_T76 l0 x7_1).f0))) (fun _ hk => hk.2) (.int .i64 ((rd_T76 l0 x7_1).f1))) (fun _ hk => hk.2) (.string ((rd_T76 l0 x7_1).f2))) (fun _ hk => hk.1)⟩, ⟨by (with_reducible repeat (first | apply Kd.R_alloc | apply Kd.R_drewN | apply Kd.R_drew)); exact Kd.R_mono (Kd.R_far (p := ⟨gb149, 2, none⟩) (Kd.R_far (p := ⟨gb149, 1, none⟩) (Kd.R_far (p := ⟨gb149, 0, none⟩) (Kd.R_types HO_6.out BK149.out (by decide)) (fun _ hk => hk.2) (.int .i64 ((rd_T76 l0 x7_1).f0))) (fun _ hk => hk.2) (.int .i64 ((rd_T76 l0 x7_1).f1))) (fun _ hk => hk.2) (.string ((rd_T76 l0 x7_1).f2))) (fun _ hk => hk.1)⟩, ⟨by (with_reducible repeat (first | refine blk_drewN ?_ _ | refine blk_drew ?_ | refine blk_alloc ?_ _)); refine blk_far ?_ NB147_149.out _; (with_reducible repeat (first | refine blk_drewN ?_ _ | refine blk_drew ?_ | refine blk_alloc ?_ _)); refine blk_far ?_ NB147_149.out _; (with_reducible repeat (first | refine blk_drewN ?_ _ | refine blk_drew ?_ | refine blk_alloc ?_ _)); refine blk_far ?_ NB147_149.out _; (with_reducible repeat (first | refine blk_drewN ?_ _ | refine blk_drew ?_ | refine blk_alloc ?_ _)); exact BK147.out⟩, ⟨by (with_reducible repeat (first | refine blk_drewN ?_ _ | refine blk_drew ?_ | refine blk_alloc ?_ _)); refine blk_put (cs := #[.int .i64 ((rd_T76 l0 x7_1).f0), .int .i64 ((rd_T76 l0 x7_1).f1), .string (⟨#[]⟩ : ByteArray)]) ?_ 2 _ rfl; (with_reducible repeat (first | refine blk_drewN ?_ _ | refine blk_drew ?_ | refine blk_alloc ?_ _)); refine blk_put (cs := #[.int .i64 ((rd_T76 l0 x7_1).f0), .int .i64 0, .string (⟨#[]⟩ : ByteArray)]) ?_ 1 _ rfl; (with_reducible repeat (first | refine blk_drewN ?_ _ | refine blk_drew ?_ | refine blk_alloc ?_ _)); refine blk_put (cs := #[.int .i64 0, .int .i64 0, .string (⟨#[]⟩ : ByteArray)]) ?_ 0 _ rfl; (with_reducible repeat (first | refine blk_drewN ?_ _ | refine blk_drew ?_ | refine blk_alloc ?_ _)); exact BK149.out⟩, ⟨by repeat (first | (with_reducible first | exact HB.out | apply below_alloc | apply pw_below_drewN | apply below_drew1 | refine below_set ?_ GE147.out | refine below_set ?_ GE149.out) | exact HB.out)⟩⟩
          case rest =>
            clear HC8
            try clear c1
            try clear p2
            try clear c3
            try clear c4
            try clear c5
            try clear c6
            try clear c7
            try clear c8
            try clear c9
            try clear c10
            try clear c12
            try clear c12b0
            try clear c12b1
            try clear c14
            try clear c14b0
            try clear c14b1
            try clear c15
            try clear c16
            try clear c36
            try clear c37
            try clear c38
            try clear c39
            try clear c40
            try clear c42
            try clear c43
            try clear c45
            try clear c46
            try clear c46b0
            try clear c46b1
            try clear c48
            try clear c48b0
            try clear c48b1
            try clear c49
            try clear c53
            try clear c54
            try clear c57
            try clear c61
            try clear c62
            try clear c65
            try clear c65b0
            try clear c65b1
            try clear c69
            try clear c71
            try clear c72
            try clear c81
            try clear c90
            try clear c98
            try clear c98b0
            try clear c98b1
            try clear c100
            try clear hcz101_0
            try clear hcz101_1
            try clear hcz101_2
            try clear hcz101_3
            try clear hcz102_0
            try clear hcz102_1
            try clear hcz102_2
            try clear hcz104_0
            try clear hcz104_1
            try clear hcz104_2
            try clear hcz104_3
            try clear hcz38_0
            try clear hcz38_1
            try clear hcz38_2
            try clear hcz38_3
            try clear hcz39_0
            try clear hcz39_1
            try clear hcz39_2
            try clear hcz44_0
            try clear hcz44_1
            try clear hcz44_2
            try clear hcz44_3
            try clear hcz45_0
            try clear hcz45_1
            try clear hcz45_2
            try clear hcz45_3
            try clear hcz50_0
            try clear hcz50_1
            try clear hcz50_2
            try clear hcz50_3
            try clear hcz55_0
            try clear hcz55_1
            try clear hcz55_2
            try clear hcz55_3
            try clear hcz56_0
            try clear hcz56_1
            try clear hcz56_2
            try clear hcz56_3
            try clear hcz58_0
            try clear hcz58_1
            try clear hcz58_2
            try clear hcz58_3
            try clear hcz63_0
            try clear hcz63_1
            try clear hcz63_2
            try clear hcz63_3
            try clear hcz64_0
            try clear hcz64_1
            try clear hcz64_2
            try clear hcz64_3
            try clear hcz73_0
            try clear hcz73_1
            try clear hcz73_2
            try clear hcz73_3
            try clear hcz74_0
            try clear hcz74_1
            try clear hcz74_2
            try clear hcz76_0
            try clear hcz76_1
            try clear hcz76_2
            try clear hcz76_3
            try clear hcz82_0
            try clear hcz82_1
            try clear hcz82_2
            try clear hcz82_3
            try clear hcz83_0
            try clear hcz83_1
            try clear hcz83_2
            try clear hcz85_0
            try clear hcz85_1
            try clear hcz85_2
            try clear hcz85_3
            try clear hcz91_0
            try clear hcz91_1
            try clear hcz91_2
            try clear hcz91_3
            try clear hcz92_0
            try clear hcz92_1
            try clear hcz92_2
            try clear hcz94_0
            try clear hcz94_1
            try clear hcz94_2
            try clear hcz94_3
            try clear hfz101_0
            try clear hfz101_1
            try clear hfz101_2
            try clear hfz101_3
            try clear hfz102_0
            try clear hfz102_1
            try clear hfz102_2
            try clear hfz104_0
            try clear hfz104_1
            try clear hfz104_2
            try clear hfz104_3
            try clear hfz38_0
            try clear hfz38_1
            try clear hfz38_2
            try clear hfz38_3
            try clear hfz39_0
            try clear hfz39_1
            try clear hfz39_2
            try clear hfz44_0
            try clear hfz44_1
            try clear hfz44_2
            try clear hfz44_3
            try clear hfz45_0
            try clear hfz45_1
            try clear hfz45_2
            try clear hfz45_3
            try clear hfz50_0
            try clear hfz50_1
            try clear hfz50_2
            try clear hfz50_3
            try clear hfz55_0
            try clear hfz55_1
            try clear hfz55_2
            try clear hfz55_3
            try clear hfz56_0
            try clear hfz56_1
            try clear hfz56_2
            try clear hfz56_3
            try clear hfz58_0
            try clear hfz58_1
            try clear hfz58_2
            try clear hfz58_3
            try clear hfz63_0
            try clear hfz63_1
            try clear hfz63_2
            try clear hfz63_3
            try clear hfz64_0
            try clear hfz64_1
            try clear hfz64_2
            try clear hfz64_3
            try clear hfz73_0
            try clear hfz73_1
            try clear hfz73_2
            try clear hfz73_3
            try clear hfz74_0
            try clear hfz74_1
            try clear hfz74_2
            try clear hfz76_0
            try clear hfz76_1
            try clear hfz76_2
            try clear hfz76_3
            try clear hfz82_0
            try clear hfz82_1
            try clear hfz82_2
            try clear hfz82_3
            try clear hfz83_0
            try clear hfz83_1
            try clear hfz83_2
            try clear hfz85_0
            try clear hfz85_1
            try clear hfz85_2
            try clear hfz85_3
            try clear hfz91_0
            try clear hfz91_1
            try clear hfz91_2
            try clear hfz91_3
            try clear hfz92_0
            try clear hfz92_1
            try clear hfz92_2
            try clear hfz94_0
            try clear hfz94_1
            try clear hfz94_2
            try clear hfz94_3
            obtain ⟨kq, x5_7, x6_7, x148000_7, x148001_7, x148002_7, x148003_7, HA, HJ7, HO_5, HO_6, BK147, BK149, HB⟩ := hcut
            cases kq with
            | zero => exact absurd HA.out (by simp [selvedgelaw17_PaperLasts.j1])
            | succ kj7 =>
              have H := HA.out
              clear HA
              simp only [selvedgelaw17_PaperLasts.j1] at H
              replace H := Option.bind_eq_some_iff.mp H
              obtain ⟨t187, A1050, H⟩ := H
              replace H : ((selvedgelaw17_begins.f kj7 x5_7 t187).bind fun t190 => (if t190 = true then ((selvedgeref01_Same.f kj7 t187 x6_7).bind fun t191 => (if t191 = true then (selvedgelaw17_PaperLasts.l0 kj7 l0 t146 x5_7 x6_7 (wrap64 (x7_1 + 1)) x148000_7 x148001_7 x148002_7 x148003_7) else (some false))) else (some false))) = some r := H
              have A105 := Aside0.mk A1050
              clear A1050
              replace H := Option.bind_eq_some_iff.mp H
              obtain ⟨t190, A1060, H⟩ := H
              replace H : (if t190 = true then ((selvedgeref01_Same.f kj7 t187 x6_7).bind fun t191 => (if t191 = true then (selvedgelaw17_PaperLasts.l0 kj7 l0 t146 x5_7 x6_7 (wrap64 (x7_1 + 1)) x148000_7 x148001_7 x148002_7 x148003_7) else (some false))) else (some false)) = some r := H
              have A106 := Aside0.mk A1060
              clear A1060
              by_cases c107 : t190 = true
              · subst c107
                have H1 : ((selvedgeref01_Same.f kj7 t187 x6_7).bind fun t191 => (if t191 = true then (selvedgelaw17_PaperLasts.l0 kj7 l0 t146 x5_7 x6_7 (wrap64 (x7_1 + 1)) x148000_7 x148001_7 x148002_7 x148003_7) else (some false))) = some r := by rw [if_pos rfl] at H; exact H
                clear H
                have H := H1
                clear H1
                replace H := Option.bind_eq_some_iff.mp H
                obtain ⟨t191, A1080, H⟩ := H
                replace H : (if t191 = true then (selvedgelaw17_PaperLasts.l0 kj7 l0 t146 x5_7 x6_7 (wrap64 (x7_1 + 1)) x148000_7 x148001_7 x148002_7 x148003_7) else (some false)) = some r := H
                have A108 := Aside0.mk A1080
                clear A1080
                by_cases c109 : t191 = true
                · subst c109
                  have H1 : (selvedgelaw17_PaperLasts.l0 kj7 l0 t146 x5_7 x6_7 (wrap64 (x7_1 + 1)) x148000_7 x148001_7 x148002_7 x148003_7) = some r := by rw [if_pos rfl] at H; exact H
                  clear H
                  have H := H1
                  clear H1
                  have H' := Aside0.mk H
                  clear H
                  have hnb110 := NB147_149.out
                  have hnc110 := NB149_147.out
                  have hcz111_0 : wc.cell? ⟨gb147, 0, none⟩ = some (.string x148000_7) := (blk_cell BK147.out 0).trans rfl
                  have hcz111_1 : wc.cell? ⟨gb147, 1, none⟩ = some (.string x148001_7) := (blk_cell BK147.out 1).trans rfl
                  have hcz111_2 : wc.cell? ⟨gb147, 2, none⟩ = some (.int .i64 x148002_7) := (blk_cell BK147.out 2).trans rfl
                  have hcz111_3 : wc.cell? ⟨gb147, 3, none⟩ = some (.bool x148003_7) := (blk_cell BK147.out 3).trans rfl
                  have hfz111_0 := blk_frozen BK147.out 0
                  have hfz111_1 := blk_frozen BK147.out 1
                  have hfz111_2 := blk_frozen BK147.out 2
                  have hfz111_3 := blk_frozen BK147.out 3
                  go_wp2_with (first | ((with_reducible refine gate_callee (f := 40) rfl ?_); refine goesL_ (some 86) rfl rfl Try.func40 (by kernel_rfl) rfl #[.agg #[.string x148000_7, .string x148001_7, .int .i64 x148002_7, .bool x148003_7]] rfl (by (try simp only [List.map_toArray, List.map_cons, List.map_nil]); first | done | rfl | (simp only [List.length_drop, List.length_take]; rfl)) ?_; (with_reducible refine (paper_Records.calls kj7 x148000_7 x148001_7 x148002_7 x148003_7 t187 _ A105.out).mono ?_); rintro e w112 ⟨v188, rfl, ho0, hb⟩; refine ⟨_, rfl, ?_⟩; have n0_ := Aside0.mk (Kd.R_elder' (by (with_reducible repeat (first | apply Kd.R_alloc | apply Kd.R_drewN | apply Kd.R_drew)); exact HO_5.out) (Kd.R_base ho0) hb); have n1_ := Aside0.mk (Kd.R_elder' (by (with_reducible repeat (first | apply Kd.R_alloc | apply Kd.R_drewN | apply Kd.R_drew)); exact HO_6.out) (Kd.R_base ho0) hb); have n2_ := Aside0.mk (Kd.R_lower (Kd.R_new' (Kd.R_new' ho0 (Kd.R_lt (by (with_reducible repeat (first | apply Kd.R_alloc | apply Kd.R_drewN | apply Kd.R_drew)); exact HO_5.out))) (Kd.R_lt (by (with_reducible repeat (first | apply Kd.R_alloc | apply Kd.R_drewN | apply Kd.R_drew)); exact HO_6.out))) (below_size (by repeat (first | (with_reducible first | exact HB.out | apply below_alloc | apply pw_below_drewN | apply below_drew1 | refine below_set ?_ GE147.out | refine below_set ?_ GE149.out) | exact HB.out)))); have n3_ := Aside0.mk (blk_below (g := gb147) (o := .cells #[.string x148000_7, .string x148001_7, .int .i64 x148002_7, .bool x148003_7] 60 (0, 0)) (by (with_reducible repeat (first | refine blk_drewN ?_ _ | refine blk_drew ?_ | refine blk_alloc ?_ _)); exact BK147.out) hb); have n4_ := Aside0.mk (blk_below (g := gb149) (o := .cells #[.int .i64 ((rd_T76 l0 x7_1).f0), .int .i64 ((rd_T76 l0 x7_1).f1), .string ((rd_T76 l0 x7_1).f2)] 76 (0, 0)) (by (with_reducible repeat (first | refine blk_drewN ?_ _ | refine blk_drew ?_ | refine blk_alloc ?_ _)); exact BK149.out) hb); have n5_ := Aside0.mk (below_step (by repeat (first | (with_reducible first | exact HB.out | apply below_alloc | apply pw_below_drewN | apply below_drew1 | refine below_set ?_ GE147.out | refine below_set ?_ GE149.out) | exact HB.out)) hb); clear HO_5; clear HO_6; clear BK147; clear BK149; clear HB; have HO_5 := n0_; have HO_6 := n1_; have HO189 := n2_; have BK147 := n3_; have BK149 := n4_; have HB := n5_; clear n0_ n1_ n2_ n3_ n4_ n5_; (try clear hb); (try clear hb2); (try clear hk); (try clear hi); (try clear ho0); obtain ⟨Ao113, co113, eo113⟩ := Kd.R_slice HO_5.out; subst eo113; obtain ⟨Ao114, co114, eo114⟩ := Kd.R_slice HO189.out; subst eo114) | ((with_reducible refine gate_callee (f := 36) rfl ?_); refine goesL_ (some 89) rfl rfl Try.func36 (by kernel_rfl) rfl #[.slice Ao113 x5_7.length co113, .slice Ao114 t187.length co114] rfl (by (try simp only [List.map_toArray, List.map_cons, List.map_nil]); first | done | rfl | (simp only [List.length_drop, List.length_take]; rfl)) ?_; (with_reducible refine (selvedgelaw17_begins.calls kj7 _ _ x5_7 _ _ t187 true _ ?side1 ?side2 ?side3 ?side4 A106.out).mono ?_); (case side1 => repeat (first | exact (Kd.R_reads' HO_5.out).2.2 | (with_reducible refine Kd.C_alloc ?_ _) | (with_reducible refine Kd.C_drewN ?_ _) | (with_reducible refine Kd.C_drew ?_))); (case side2 => exact (Kd.R_reads' HO_5.out).2.1); (case side3 => repeat (first | exact (Kd.R_reads' HO189.out).2.2 | (with_reducible refine Kd.C_alloc ?_ _) | (with_reducible refine Kd.C_drewN ?_ _) | (with_reducible refine Kd.C_drew ?_))); (case side4 => exact (Kd.R_reads' HO189.out).2.1); rintro e w' ⟨rfl, ⟨nd, rfl⟩⟩; refine ⟨_, rfl, ?_⟩; obtain ⟨Ao115, co115, eo115⟩ := Kd.R_slice HO_6.out; subst eo115) | (go_at_call 28; (with_reducible refine (selvedgeref01_Same.calls kj7 _ _ t187 _ _ x6_7 true _ ?side1 ?side2 ?side3 ?side4 A108.out).mono ?_); (case side1 => repeat (first | exact (Kd.R_reads' HO189.out).2.2 | (with_reducible refine Kd.C_alloc ?_ _) | (with_reducible refine Kd.C_drewN ?_ _) | (with_reducible refine Kd.C_drew ?_))); (case side2 => exact (Kd.R_reads' HO189.out).2.1); (case side3 => repeat (first | exact (Kd.R_reads' HO_6.out).2.2 | (with_reducible refine Kd.C_alloc ?_ _) | (with_reducible refine Kd.C_drewN ?_ _) | (with_reducible refine Kd.C_drew ?_))); (case side4 => exact (Kd.R_reads' HO_6.out).2.1); rintro e w' ⟨rfl, ⟨nd, rfl⟩⟩))
                  go_roundg kj7
                  case measure => have := HK1.out; have := HJ7.out; omega
                  case rel => exact ⟨(x5_7), (x6_7), (wrap64 (x7_1 + 1)), (x148000_7), (x148001_7), (x148002_7), (x148003_7), (by first | rfl | (simp; done) | (simp [*]; done)), H', ⟨by have := HK1.out; have := HJ7.out; omega⟩, ⟨by (with_reducible repeat (first | apply Kd.R_alloc | apply Kd.R_drewN | apply Kd.R_drew)); exact Kd.R_mono HO_5.out (fun _ hk => hk.1)⟩, ⟨by (with_reducible repeat (first | apply Kd.R_alloc | apply Kd.R_drewN | apply Kd.R_drew)); exact Kd.R_mono HO_6.out (fun _ hk => hk.1)⟩, ⟨by (with_reducible repeat (first | refine blk_drewN ?_ _ | refine blk_drew ?_ | refine blk_alloc ?_ _)); exact BK147.out⟩, ⟨by repeat (first | (with_reducible first | exact HB.out | apply below_alloc | apply pw_below_drewN | apply below_drew1 | refine below_set ?_ GE147.out | refine below_set ?_ GE149.out) | exact HB.out)⟩⟩
                · replace c109 := Bool.eq_false_iff.mpr c109
                  subst c109
                  have H1 : (some false) = some r := by rw [if_neg (show ¬ (false = true) by decide)] at H; exact H
                  exact absurd ((Option.some.inj H1).trans HRT_.out) (by decide)
              · replace c107 := Bool.eq_false_iff.mpr c107
                subst c107
                have H1 : (some false) = some r := by rw [if_neg (show ¬ (false = true) by decide)] at H; exact H
                exact absurd ((Option.some.inj H1).trans HRT_.out) (by decide)
        · rw [if_neg c7] at H
          exact absurd H (by simp)
      · rw [if_neg c6] at H
        have c6b0 : decide (x7_1 < (l0.length : Int)) = false := decide_eq_false c6
        clear c6
        obtain rfl := Option.some.inj H
        go_wp2
        go_ret
        exact ⟨by first | rfl | (simp [errW_none, errW_some] <;> rfl) | (simp [*, errW_none, errW_some] <;> rfl), by repeat (first | (with_reducible first | exact HB.out | apply below_alloc | apply pw_below_drewN | apply below_drew1 | refine below_set ?_ GE147.out) | exact HB.out)⟩

end Go.Proofs.Ytiknkkkfkifahaa.PPaperLasts
