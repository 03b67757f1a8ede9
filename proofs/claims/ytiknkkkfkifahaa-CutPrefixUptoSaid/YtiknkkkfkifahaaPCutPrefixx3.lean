-- written by a program of this session (pp.py), out of the kit's print and this session's contracts
import Derived.Test.YtiknkkkfkifahaaPCutPrefixx0
import Derived.Test.YtiknkkkfkifahaaPCutPrefixx1
import Derived.Test.YtiknkkkfkifahaaPe
namespace Go.Proofs.Ytiknkkkfkifahaa.PCutPrefix
open Go.RowKit Go.Proofs.YtiknkkkfkifahaaW.PrintWords Go.Proofs.YtiknkkkfkifahaaW.PrintLast Go.Proofs.YtiknkkkfkifahaaW.PrintMore
attribute [local go_sem] max2_int min2_int max_two min_two max_three min_three max_four min_four   -- for this text's walks alone
set_option linter.unusedVariables false
set_option linter.unusedSimpArgs false

/-! ### selvedgelaw15_runs: function 27 -/
def selvedgelaw15_runs.l0 : Nat → List (S42) → List (S25) → Int → Int → ByteArray → List ByteArray → Option ((List (S25)) × Int × ByteArray × List ByteArray)
 | 0, _, _, _, _, _, _ => none
 | k + 1, x0, x5, x6, x168000, x168001, x168002 => if x6 < (x0.length : Int) then (if 0 ≤ x6 then ((cut_Feed.f k x168000 x168001 x168002 ((rd_T42 x0 x6).f0)).bind fun bt169 => (if x5.length + bt169.2.2.2.length < 2932031007402 then ((some (x5 ++ bt169.2.2.2 : List (S25))).bind fun y178 => (if (rd_T42 x0 x6).f1 = true then ((cut_Flush.f bt169.1 bt169.2.1 bt169.2.2.1).bind fun bt182 => (if y178.length + bt182.2.2.2.length < 2932031007402 then (selvedgelaw15_runs.l0 k x0 (y178 ++ bt182.2.2.2) (wrap64 (x6 + 1)) bt182.1 bt182.2.1 bt182.2.2.1) else (none))) else (selvedgelaw15_runs.l0 k x0 y178 (wrap64 (x6 + 1)) bt169.1 bt169.2.1 bt169.2.2.1))) else (none))) else (none)) else (some (x5, x168000, x168001, x168002))
def selvedgelaw15_runs.f (k : Nat) (l0 : List (S42)) : Option ((List (S25)) × Int × ByteArray × List ByteArray) := selvedgelaw15_runs.l0 k l0 ([] : List (S25)) 0 0 (⟨#[]⟩ : ByteArray) ([] : List ByteArray)
theorem selvedgelaw15_runs.mono_l : ∀ k, (∀ y0 y1 y2 y3 y4 y5, LeO (selvedgelaw15_runs.l0 k y0 y1 y2 y3 y4 y5) (selvedgelaw15_runs.l0 (k + 1) y0 y1 y2 y3 y4 y5))
 | 0 => fun _ _ _ _ _ _ r h => by simp [selvedgelaw15_runs.l0] at h
 | k + 1 => by
  have ih0 := selvedgelaw15_runs.mono_l k
  ·
   intro y0 y1 y2 y3 y4 y5
   unfold selvedgelaw15_runs.l0
   repeat' first
   | (with_reducible exact ih0 _ _ _ _ _ _)
   | (with_reducible exact cut_Feed.mono _ _ _ _ _)
   | (with_reducible exact LeO.refl _)
   | (with_reducible exact LeO.none _)
   | (with_reducible refine LeO.ite ?_ ?_)
   | (with_reducible refine LeO.bind ?_ (fun _ => ?_))
   | exact ih0 _ _ _ _ _ _
   | exact cut_Feed.mono _ _ _ _ _
   | exact LeO.none _
   | refine LeO.ite ?_ ?_
   | refine LeO.bind ?_ (fun _ => ?_)
theorem selvedgelaw15_runs.mono : ∀ a0 k, LeO (selvedgelaw15_runs.f k a0) (selvedgelaw15_runs.f (k + 1) a0) := by
 intro a0 k
 have ih0 := selvedgelaw15_runs.mono_l k
 unfold selvedgelaw15_runs.f
 repeat' first
   | (with_reducible exact ih0 _ _ _ _ _ _)
   | (with_reducible exact cut_Feed.mono _ _ _ _ _)
   | (with_reducible exact LeO.refl _)
   | (with_reducible exact LeO.none _)
   | (with_reducible refine LeO.ite ?_ ?_)
   | (with_reducible refine LeO.bind ?_ (fun _ => ?_))
   | exact ih0 _ _ _ _ _ _
   | exact cut_Feed.mono _ _ _ _ _
   | exact LeO.none _
   | refine LeO.ite ?_ ?_
   | refine LeO.bind ?_ (fun _ => ?_)
def selvedgelaw15_runs.T6 : Bool × List (List Nat × List Nat) := (true, [([], []), ([], []), ([], []), ([1, 2], [1, 2]), ([3], [3]), ([4], [4]), ([0, 5], [0, 5]), ([6], [6]), ([7], [7]), ([7], [7]), ([], []), ([10, 8, 6, 0, 1, 2, 3, 4, 5, 6, 7, 8, 10], [8, 10]), ([9, 11, 0, 1, 2, 3, 4, 5, 6, 7, 8, 9, 10, 11], [9])])
def selvedgelaw15_runs.B6 : List Nat := [0, 0, 0, 6, 14, 30, 63, 127, 255, 255, 0, 1535, 4095]
theorem selvedgelaw15_runs.tab6 : rtab .any (opsOf Try.f27 6) = selvedgelaw15_runs.T6 := by kernel_rfl
theorem selvedgelaw15_runs.bits6 : waitsOk selvedgelaw15_runs.T6.2 selvedgelaw15_runs.B6 = true := by kernel_rfl
set_option maxHeartbeats 8000000 in
set_option maxRecDepth 100000 in
theorem selvedgelaw15_runs.calls (k : Nat) (A0 : Option Addr) (c0 : Nat) (l0 : List (S42)) (r1 : List (S25)) (r2 : Int) (r3 : ByteArray) (r4 : List ByteArray) (w : World) (hr0 : Kd.C k42 w A0 l0.length l0) (hc0 : l0.length ≤ c0) (h : selvedgelaw15_runs.f k l0 = some (r1, r2, r3, r4)) :
  Calls Try.prog 27 #[.slice A0 l0.length c0] w fun e w' => ∃ v0_ v3_ : Value, e = .returned (.tuple #[v0_, .agg #[.int .i64 r2, .string r3, v3_]]) ∧ Kd.N k25 25 w' w.heap.size (fun k_ => (w.heap.size ≤ k_)) v0_ r1 ∧ Kd.V Kd.string 9 w' w.heap.size (fun k_ => (w.heap.size ≤ k_) ∧ some k_ ≠ (v0_ : Value).ownBlock) v3_ r4 ∧ Below w.heap.size w w' := by
 have hu24 := Try.underlying24
 have HR0 := Aside0.mk hr0
 have HC0 := Aside0.mk hc0
 clear hr0 hc0
 have HB := Aside0.mk (Below.refl w.heap.size w)
 have H : (selvedgelaw15_runs.l0 k l0 ([] : List (S25)) 0 0 (⟨#[]⟩ : ByteArray) ([] : List ByteArray)) = some (r1, r2, r3, r4) := h
 clear h
 have H' := Aside0.mk H
 clear H
 go_enter Try.func27, Try.ntmps27
 go_wp2_with (first | ((with_reducible refine gate_dst (N := 3) rfl ?_); refine box_event ?hg (N := 3) ?hd (cs := #[.int .i64 0, .string (⟨#[]⟩ : ByteArray), .slice none 0 0]) (t := 24) ?hr ?_; (case hd => rfl); (case hg => rfl); (case hr => first | (go_simp; done) | (go_simp; rfl)); intro gb166 hg w2 hbox hb; have n0_ := Aside0.mk (below_step (by repeat (first | (with_reducible first | exact HB.out | apply below_alloc | apply pw_below_drewN | apply below_drew1) | exact HB.out)) hb); have n1_ := Aside0.mk (hbox); have n2_ := Aside0.mk ((by rw [hg]; exact (below_size (by repeat (first | (with_reducible first | exact HB.out | apply below_alloc | apply pw_below_drewN | apply below_drew1) | exact HB.out))) : w.heap.size ≤ gb166)); have n3_ := Aside0.mk ((by rw [hg]; exact (below_size (by repeat (first | (with_reducible first | exact HB.out | apply below_alloc | apply pw_below_drewN | apply below_drew1) | exact HB.out))) : w.heap.size ≤ gb166)); clear HB; have HB := n0_; have BK166 := n1_; have GW166 := n2_; have GE166 := n3_; clear n0_ n1_ n2_ n3_; clear hb hbox hg) | ((with_reducible refine gate_dst (N := 4) rfl ?_); refine box_event ?hg (N := 4) ?hd (cs := #[.int .i64 0, .string (⟨#[]⟩ : ByteArray), .slice none 0 0]) (t := 24) ?hr ?_; (case hd => rfl); (case hg => rfl); (case hr => first | (go_simp; done) | (go_simp; rfl)); intro gb167 hg w3 hbox hb; have n0_ := Aside0.mk (blk_below (g := gb166) (o := .cells #[.int .i64 0, .string (⟨#[]⟩ : ByteArray), .slice none 0 0] 24 (0, 0)) (pB BK166.out) hb); have n1_ := Aside0.mk (below_step (by repeat (first | (with_reducible first | exact HB.out | apply below_alloc | apply pw_below_drewN | apply below_drew1 | refine below_set ?_ GE166.out) | exact HB.out)) hb); have n2_ := Aside0.mk (hbox); have n3_ := Aside0.mk ((by rw [hg]; exact (below_size (by repeat (first | (with_reducible first | exact HB.out | apply below_alloc | apply pw_below_drewN | apply below_drew1 | refine below_set ?_ GE166.out) | exact HB.out))) : w.heap.size ≤ gb167)); have n4_ := Aside0.mk ((by rw [hg]; exact (below_size (by repeat (first | (with_reducible first | exact HB.out | apply below_alloc | apply pw_below_drewN | apply below_drew1 | refine below_set ?_ GE166.out) | exact HB.out))) : w.heap.size ≤ gb167)); have n5_ := Aside0.mk ((by rw [hg]; exact Nat.ne_of_lt (blk_lt (g := gb166) (o := .cells #[.int .i64 0, .string (⟨#[]⟩ : ByteArray), .slice none 0 0] 24 (0, 0)) (pB BK166.out)) : gb166 ≠ gb167)); have n6_ := Aside0.mk ((by rw [hg]; exact Nat.ne_of_gt (blk_lt (g := gb166) (o := .cells #[.int .i64 0, .string (⟨#[]⟩ : ByteArray), .slice none 0 0] 24 (0, 0)) (pB BK166.out)) : gb167 ≠ gb166)); clear BK166; clear HB; have BK166 := n0_; have HB := n1_; have BK167 := n2_; have GW167 := n3_; have GE167 := n4_; have NB166_167 := n5_; have NB167_166 := n6_; clear n0_ n1_ n2_ n3_ n4_ n5_ n6_; clear hb hbox hg; have hnb4 := NB167_166.out; have hnc4 := NB166_167.out; have hcz5_0 : w3.cell? ⟨gb167, 0, none⟩ = some (.int .i64 0) := (blk_cell BK167.out 0).trans rfl; have hcz5_1 : w3.cell? ⟨gb167, 1, none⟩ = some (.string (⟨#[]⟩ : ByteArray)) := (blk_cell BK167.out 1).trans rfl; have hcz5_2 : w3.cell? ⟨gb167, 2, none⟩ = some (.slice none 0 0) := (blk_cell BK167.out 2).trans rfl; have hfz5_0 := blk_frozen BK167.out 0; have hfz5_1 := blk_frozen BK167.out 1; have hfz5_2 := blk_frozen BK167.out 2))
 go_loopg [5, 6] k (fun kq v5 v6 w' => ∃ (x5_1 : List (S25)) (x6_1 : Int) (x168000_1 : Int) (x168001_1 : ByteArray) (x168002_1 : List ByteArray) (u168002 : Value), v6 = .int .i64 x6_1 ∧ Aside0 (selvedgelaw15_runs.l0 kq l0 x5_1 x6_1 x168000_1 x168001_1 x168002_1 = some (r1, r2, r3, r4)) ∧ Aside0 (kq ≤ k) ∧ Aside0 (Kd.N k25 25 w' w.heap.size (fun k_ => (w.heap.size ≤ k_) ∧ k_ ≠ gb166 ∧ k_ ≠ gb167) v5 x5_1) ∧ Aside0 (Kd.V Kd.string 9 w' w.heap.size (fun k_ => (w.heap.size ≤ k_) ∧ some k_ ≠ (v5 : Value).ownBlock ∧ k_ ≠ gb166 ∧ k_ ≠ gb167) u168002 x168002_1) ∧ Aside0 (w'.heap[gb166]? = some (.cells #[.int .i64 0, .string (⟨#[]⟩ : ByteArray), (.slice none 0 0)] 24 (0, 0))) ∧ Aside0 (w'.heap[gb167]? = some (.cells #[.int .i64 x168000_1, .string x168001_1, u168002] 24 (0, 0))) ∧ Aside0 (Below w.heap.size w w'))
 case atStart => exact ⟨(([] : List (S25))), (0), (0), ((⟨#[]⟩ : ByteArray)), (([] : List ByteArray)), (.slice none 0 0), (by first | rfl | (simp; done) | (simp [*]; done)), H', ⟨Nat.le_refl _⟩, ⟨by first | exact Kd.S_nil _ _ _ _ _ | exact Kd.N_nil _ _ _ _ _ | exact Kd.V_nil _ _ _ _ _ | exact Kd.Q_nil _ _ _ _ _ | exact Kd.R_nil _ _ _ _ _⟩, ⟨Kd.V_nil _ _ _ _ _⟩, ⟨by (with_reducible repeat (first | refine blk_drewN ?_ _ | refine blk_drew ?_ | refine blk_alloc ?_ _)); refine blk_far ?_ NB166_167.out _; (with_reducible repeat (first | refine blk_drewN ?_ _ | refine blk_drew ?_ | refine blk_alloc ?_ _)); refine blk_far ?_ NB166_167.out _; (with_reducible repeat (first | refine blk_drewN ?_ _ | refine blk_drew ?_ | refine blk_alloc ?_ _)); refine blk_far ?_ NB166_167.out _; (with_reducible repeat (first | refine blk_drewN ?_ _ | refine blk_drew ?_ | refine blk_alloc ?_ _)); exact BK166.out⟩, ⟨by (with_reducible repeat (first | refine blk_drewN ?_ _ | refine blk_drew ?_ | refine blk_alloc ?_ _)); refine blk_put (cs := #[.int .i64 0, .string (⟨#[]⟩ : ByteArray), .slice none 0 0]) ?_ 2 _ rfl; (with_reducible repeat (first | refine blk_drewN ?_ _ | refine blk_drew ?_ | refine blk_alloc ?_ _)); refine blk_put (cs := #[.int .i64 0, .string (⟨#[]⟩ : ByteArray), .slice none 0 0]) ?_ 1 _ rfl; (with_reducible repeat (first | refine blk_drewN ?_ _ | refine blk_drew ?_ | refine blk_alloc ?_ _)); refine blk_put (cs := #[.int .i64 0, .string (⟨#[]⟩ : ByteArray), .slice none 0 0]) ?_ 0 _ rfl; (with_reducible repeat (first | refine blk_drewN ?_ _ | refine blk_drew ?_ | refine blk_alloc ?_ _)); exact BK167.out⟩, ⟨by repeat (first | (with_reducible first | exact HB.out | apply below_alloc | apply pw_below_drewN | apply below_drew1 | refine below_set ?_ GE166.out | refine below_set ?_ GE167.out) | exact HB.out)⟩⟩
 case round =>
  clear H'
  try clear c2
  try clear p2
  try clear c4
  try clear hcz5_0
  try clear hcz5_1
  try clear hcz5_2
  try clear hfz5_0
  try clear hfz5_1
  try clear hfz5_2
  obtain ⟨x5_1, x6_1, x168000_1, x168001_1, x168002_1, u168002, rfl, HA, HK1, HO_5, HO_168002, BK166, BK167, HB⟩ := hrel
  cases gk with
  | zero => exact absurd HA.out (by simp [selvedgelaw15_runs.l0])
  | succ k1 =>
   have H := HA.out
   clear HA
   simp only [selvedgelaw15_runs.l0] at H
   by_cases c6 : x6_1 < (l0.length : Int)
   ·
    rw [if_pos c6] at H
    have c6b0 : decide (x6_1 < (l0.length : Int)) = true := decide_eq_true c6
    clear c6
    by_cases c7 : 0 ≤ x6_1
    ·
     rw [if_pos c7] at H
     have c7b0 : decide (0 ≤ x6_1) = true := decide_eq_true c7
     clear c7
     replace H := Option.bind_eq_some_iff.mp H
     obtain ⟨⟨t169, t170, t171, t174⟩, A80, H⟩ := H
     replace H : (if x5_1.length + t174.length < 2932031007402 then ((some (x5_1 ++ t174 : List (S25))).bind fun y178 => (if (rd_T42 l0 x6_1).f1 = true then ((cut_Flush.f t169 t170 t171).bind fun bt182 => (if y178.length + bt182.2.2.2.length < 2932031007402 then (selvedgelaw15_runs.l0 k1 l0 (y178 ++ bt182.2.2.2) (wrap64 (x6_1 + 1)) bt182.1 bt182.2.1 bt182.2.2.1) else (none))) else (selvedgelaw15_runs.l0 k1 l0 y178 (wrap64 (x6_1 + 1)) t169 t170 t171))) else (none)) = some (r1, r2, r3, r4) := H
     have A8 := Aside0.mk A80
     clear A80
     by_cases c9 : x5_1.length + t174.length < 2932031007402
     ·
      rw [if_pos c9] at H
      have LMc9 := Aside0.mk c9
      clear c9
      obtain ⟨y178, hy178⟩ : ∃ y_ : List (S25), y_ = (x5_1 ++ t174) := ⟨_, rfl⟩
      replace H : (if (rd_T42 l0 x6_1).f1 = true then ((cut_Flush.f t169 t170 t171).bind fun bt182 => (if y178.length + bt182.2.2.2.length < 2932031007402 then (selvedgelaw15_runs.l0 k1 l0 (y178 ++ bt182.2.2.2) (wrap64 (x6_1 + 1)) bt182.1 bt182.2.1 bt182.2.2.1) else (none))) else (selvedgelaw15_runs.l0 k1 l0 y178 (wrap64 (x6_1 + 1)) t169 t170 t171)) = some (r1, r2, r3, r4) := by first | (rw [hy178]; with_reducible exact H) | (have H2_ := (Option.bind_some _ _).symm.trans H; rw [hy178]; with_reducible exact H2_) | (have H2_ := (Option.bind_some _ _).symm.trans H; with_reducible exact H2_) | with_reducible exact H | (rw [hy178]; exact H) | exact H
      have Ny178 := Aside0.mk hy178
      clear hy178
      obtain ⟨bq10, hbq10⟩ : ∃ b_ : Bool, b_ = ((rd_T42 l0 x6_1).f1) := ⟨_, rfl⟩
      replace H : (if bq10 = true then ((cut_Flush.f t169 t170 t171).bind fun bt182 => (if y178.length + bt182.2.2.2.length < 2932031007402 then (selvedgelaw15_runs.l0 k1 l0 (y178 ++ bt182.2.2.2) (wrap64 (x6_1 + 1)) bt182.1 bt182.2.1 bt182.2.2.1) else (none))) else (selvedgelaw15_runs.l0 k1 l0 y178 (wrap64 (x6_1 + 1)) t169 t170 t171)) = some (r1, r2, r3, r4) := by rw [← hbq10] at H; exact H
      have Nbq10 := Aside0.mk hbq10
      clear hbq10
      by_cases c11 : bq10 = true
      ·
       subst c11
       have H1 : ((cut_Flush.f t169 t170 t171).bind fun bt182 => (if y178.length + bt182.2.2.2.length < 2932031007402 then (selvedgelaw15_runs.l0 k1 l0 (y178 ++ bt182.2.2.2) (wrap64 (x6_1 + 1)) bt182.1 bt182.2.1 bt182.2.2.1) else (none))) = some (r1, r2, r3, r4) := by rw [if_pos rfl] at H; exact H
       clear H
       have H := H1
       clear H1
       replace H := Option.bind_eq_some_iff.mp H
       obtain ⟨⟨t182, t183, t184, t187⟩, A120, H⟩ := H
       replace H : (if y178.length + t187.length < 2932031007402 then (selvedgelaw15_runs.l0 k1 l0 (y178 ++ t187) (wrap64 (x6_1 + 1)) t182 t183 t184) else (none)) = some (r1, r2, r3, r4) := H
       have A12 := Aside0.mk A120
       clear A120
       by_cases c13 : y178.length + t187.length < 2932031007402
       ·
        rw [if_pos c13] at H
        have LMc13 := Aside0.mk c13
        clear c13
        obtain ⟨y190, hy190⟩ : ∃ y_ : List (S25), y_ = (y178 ++ t187) := ⟨_, rfl⟩
        replace H : (selvedgelaw15_runs.l0 k1 l0 y190 (wrap64 (x6_1 + 1)) t182 t183 t184) = some (r1, r2, r3, r4) := by first | (rw [hy190]; with_reducible exact H) | (have H2_ := (Option.bind_some _ _).symm.trans H; rw [hy190]; with_reducible exact H2_) | (have H2_ := (Option.bind_some _ _).symm.trans H; with_reducible exact H2_) | with_reducible exact H | (rw [hy190]; exact H) | exact H
        have Ny190 := Aside0.mk hy190
        clear hy190
        have H' := Aside0.mk H
        clear H
        obtain ⟨Ao14, co14, eo14⟩ := Kd.V_slice HO_168002.out
        subst eo14
        try go_wp2
        have n0_ := Aside0.mk (Kd.N_drew HO_5.out)
        have n1_ := Aside0.mk (Kd.V_drew HO_168002.out)
        have n2_ := Aside0.mk (blk_drew BK166.out)
        have n3_ := Aside0.mk (blk_drew BK167.out)
        have n4_ := Aside0.mk (below_drew1 HB.out)
        clear HO_5
        clear HO_168002
        clear BK166
        clear BK167
        clear HB
        have HO_5 := n0_
        have HO_168002 := n1_
        have BK166 := n2_
        have BK167 := n3_
        have HB := n4_
        clear n0_ n1_ n2_ n3_ n4_
        have p168 : 0 ≤ (x6_1 : Int) := of_decide_eq_true (by first | (with_reducible assumption) | assumption)
        have q168 : x6_1 < (l0.length : Int) := of_decide_eq_true (by first | (with_reducible assumption) | assumption)
        obtain ⟨ad168, A168_0, c168_0, e168, hx168_0, hx168_1, hl168_0, hi168_0⟩ := at_T42 HR0.out x6_1 p168 q168
        have hw168_1 := hx168_1
        have hw168_0 := hx168_0
        (try rw [← Nbq10.out] at hx168_1)
        cases e168
        replace hx168_0 := (HB.out.cell (World.block_lt_of_cell? w _ hx168_0)).trans hx168_0
        replace hx168_1 := (HB.out.cell (World.block_lt_of_cell? w _ hx168_1)).trans hx168_1
        have HR168_0 := Aside0.mk hi168_0
        have HC168_0 := Aside0.mk hl168_0
        clear hi168_0 hl168_0
        replace p168 := eq_true p168
        replace q168 := eq_true q168
        refine start_ (n := 13) (S := fun w' => w'.cell? ⟨gb167, 0, none⟩ = some (.int .i64 x168000_1) ∧ w'.cell? ⟨gb167, 1, none⟩ = some (.string x168001_1) ∧ w'.cell? ⟨gb167, 2, none⟩ = some (.slice Ao14 x168002_1.length co14) ∧ w'.cell? (ad168.add ((x6_1).toNat * 2)) = some (.slice A168_0 ((rd_T42 l0 x6_1).f0).length c168_0) ∧ w'.cell? ⟨(ad168.add ((x6_1).toNat * 2)).block, (ad168.add ((x6_1).toNat * 2)).off + 1, none⟩ = some (.bool true)) (ds := []) #[false, false, false, false, false, false, false, false, false, false, false, false, false] (by kernel_rfl) rfl rfl ⟨(blk_cell BK167.out 0).trans rfl, (blk_cell BK167.out 1).trans rfl, (blk_cell BK167.out 2).trans rfl, ((HB.out.cell (World.block_lt_of_cell? w _ hw168_0)).trans (by first | exact hw168_0 | (rw [hw168_0, ← Nbq10.out]))), ((HB.out.cell (World.block_lt_of_cell? w _ hw168_1)).trans (by first | exact hw168_1 | (rw [hw168_1, ← Nbq10.out])))⟩ (fun hHeld => ?_); refine with_tabW selvedgelaw15_runs.tab6 selvedgelaw15_runs.bits6 (fun HT_ HW_ => ?_)
        generalize wr.drew = w15 at HO_5 HO_168002 BK166 BK167 HB HR168_0 hx168_0 hx168_1 hHeld ⊢
        refine pure_ (i := 1) (N := some 18) (v := ?_) (a' := ?_) #[false, true, false, false, false, false, false, false, false, false, false, false, false] rfl rfl (any_of HT_.out (by kernel_rfl)) (fun _ _ _ h => h) (Or.inl ⟨by rfl, ?_⟩) ?_ ?_
        rotate_left
        ·
         intro w'
         go_simp
         with_reducible rfl
        rotate_left
        ·
         simp only [Act.put, List.setIfInBounds_toArray, List.set_cons_zero, List.set_cons_succ, i64_w, i32_w]
         rfl
        refine pure_ (i := 2) (N := some 19) (v := ?_) (a' := ?_) #[false, true, true, false, false, false, false, false, false, false, false, false, false] rfl rfl (any_of HT_.out (by kernel_rfl)) (fun _ _ _ h => h) (Or.inl ⟨by rfl, ?_⟩) ?_ ?_
        rotate_left
        ·
         intro w'
         go_simp
         with_reducible rfl
        rotate_left
        ·
         simp only [Act.put, List.setIfInBounds_toArray, List.set_cons_zero, List.set_cons_succ, i64_w, i32_w]
         rfl
        refine pure_ (i := 3) (N := some 20) (v := ?_) (a' := ?_) #[false, true, true, true, false, false, false, false, false, false, false, false, false] rfl rfl (any_of HT_.out (by kernel_rfl)) (fun _ _ _ h => h) (Or.inl ⟨by rfl, ?_⟩) ?_ ?_
        rotate_left
        ·
         intro w'
         go_simp
         with_reducible rfl
        rotate_left
        ·
         simp only [Act.put, List.setIfInBounds_toArray, List.set_cons_zero, List.set_cons_succ, i64_w, i32_w]
         rfl
        refine pure_ (i := 4) (N := some 21) (v := ?_) (a' := ?_) #[false, true, true, true, true, false, false, false, false, false, false, false, false] rfl rfl (any_of HT_.out (by kernel_rfl)) (fun _ _ _ h => h) (Or.inl ⟨by rfl, ?_⟩) ?_ ?_
        rotate_left
        ·
         intro w'
         go_simp
         with_reducible rfl
        rotate_left
        ·
         simp only [Act.put, List.setIfInBounds_toArray, List.set_cons_zero, List.set_cons_succ, i64_w, i32_w]
         rfl
        refine take_ (i := 0) (N := some 17) (v := ?_) (a' := ?_) #[true, true, true, true, true, false, false, false, false, false, false, false, false] rfl rfl (take_ofW HT_.out HW_.out (by kernel_rfl)) (fun _ _ _ h => h) (Or.inl ⟨by rfl, ?_⟩) hHeld ?_ ?_
        rotate_left
        ·
         rintro w' ⟨s0, s1, s2, s3, s4⟩
         go_simp
         with_reducible rfl
        rotate_left
        ·
         simp only [Act.put, List.setIfInBounds_toArray, List.set_cons_zero, List.set_cons_succ, i64_w, i32_w]
         rfl
        refine take_ (i := 5) (N := some 22) (v := ?_) (a' := ?_) #[true, true, true, true, true, true, false, false, false, false, false, false, false] rfl rfl (take_ofW HT_.out HW_.out (by kernel_rfl)) (fun _ _ _ h => h) (Or.inl ⟨by rfl, ?_⟩) hHeld ?_ ?_
        rotate_left
        ·
         rintro w' ⟨s0, s1, s2, s3, s4⟩
         go_simp
         with_reducible rfl
        rotate_left
        ·
         simp only [Act.put, List.setIfInBounds_toArray, List.set_cons_zero, List.set_cons_succ, i64_w, i32_w]
         rfl
        refine join_ (σ := Value × Value × Nat) 2 #[true, true, true, true, true, true, true, true, true, true, true, false, false] (fun s_ => [(23, .tuple #[.agg #[.int .i64 t169, .string t170, s_.1], s_.2.1]), (7, .pointer (some ⟨s_.2.2, 0, none⟩)), (16, .tuple #[.agg #[.int .i64 t169, .string t170, s_.1], s_.2.1]), (24, .agg #[.int .i64 t169, .string t170, s_.1]), (25, s_.2.1)]) (fun s_ w' => (w'.cell? ⟨gb167, 0, none⟩ = some (.int .i64 x168000_1) ∧ w'.cell? ⟨gb167, 1, none⟩ = some (.string x168001_1) ∧ w'.cell? ⟨gb167, 2, none⟩ = some (.slice Ao14 x168002_1.length co14) ∧ w'.cell? (ad168.add ((x6_1).toNat * 2)) = some (.slice A168_0 ((rd_T42 l0 x6_1).f0).length c168_0) ∧ w'.cell? ⟨(ad168.add ((x6_1).toNat * 2)).block, (ad168.add ((x6_1).toNat * 2)).off + 1, none⟩ = some (.bool true)) ∧ (Kd.V Kd.string 9 w' w.heap.size (fun k_ => (w.heap.size ≤ k_) ∧ some k_ ≠ (s_.2.1 : Value).ownBlock ∧ some k_ ≠ (u5 : Value).ownBlock ∧ k_ ≠ gb166 ∧ k_ ≠ gb167 ∧ k_ ≠ s_.2.2) s_.1 t171) ∧ (Kd.N k25 25 w' w.heap.size (fun k_ => (w.heap.size ≤ k_) ∧ some k_ ≠ (u5 : Value).ownBlock ∧ k_ ≠ gb166 ∧ k_ ≠ gb167 ∧ k_ ≠ s_.2.2) s_.2.1 t174) ∧ (Kd.V Kd.string 9 w' w.heap.size (fun k_ => (w.heap.size ≤ k_) ∧ some k_ ≠ (s_.2.1 : Value).ownBlock ∧ some k_ ≠ (u5 : Value).ownBlock ∧ k_ ≠ gb166 ∧ k_ ≠ gb167 ∧ k_ ≠ s_.2.2) (.slice Ao14 x168002_1.length co14) x168002_1) ∧ (Kd.N k25 25 w' w.heap.size (fun k_ => (w.heap.size ≤ k_) ∧ some k_ ≠ (s_.2.1 : Value).ownBlock ∧ k_ ≠ gb166 ∧ k_ ≠ gb167 ∧ k_ ≠ s_.2.2) u5 x5_1) ∧ (w'.heap[gb166]? = some (.cells #[.int .i64 0, .string (⟨#[]⟩ : ByteArray), .slice none 0 0] 24 (0, 0))) ∧ (w'.heap[gb167]? = some (.cells #[.int .i64 x168000_1, .string x168001_1, .slice Ao14 x168002_1.length co14] 24 (0, 0))) ∧ (w'.heap[s_.2.2]? = some (.cells #[.int .i64 0, .string (⟨#[]⟩ : ByteArray), .slice none 0 0] 24 (0, 0))) ∧ (w.heap.size ≤ s_.2.2) ∧ (w.heap.size ≤ s_.2.2) ∧ (gb166 ≠ s_.2.2) ∧ (s_.2.2 ≠ gb166) ∧ (gb167 ≠ s_.2.2) ∧ (s_.2.2 ≠ gb167) ∧ (Below w.heap.size w w')) ?_ ?_
        rotate_left
        ·
         intro hCont
         refine two_ (i := 6) (j := 10) (Ni := some 23) (Nj := some 7) #[true, true, true, true, true, true, true, false, false, false, false, false, false] #[true, true, true, true, true, true, false, false, false, false, true, false, false] rfl rfl rfl rfl (two_of HT_.out (by kernel_rfl)) (by decide) (by decide) (fun K hK => ?_) (fun K hK => ?_)
         ·
          skip
          refine goes_ Try.func17 (by kernel_rfl) rfl #[.agg #[.int .i64 x168000_1, .string x168001_1, .slice Ao14 x168002_1.length co14], .slice A168_0 ((rd_T42 l0 x6_1).f0).length c168_0] (by rfl) rfl rfl (by (try simp only [List.map_toArray, List.map_cons, List.map_nil]); first | done | rfl | (simp only [List.length_drop, List.length_take]; rfl)) ?_
          with_reducible refine (cut_Feed.calls k1 x168000_1 x168001_1 (fun k_ => ((w.heap.size ≤ k_) ∧ (some k_ ≠ (u5 : Value).ownBlock ∧ (k_ ≠ gb166 ∧ k_ ≠ gb167)))) _ _ x168002_1 _ _ ((rd_T42 l0 x6_1).f0) t169 t170 t171 t174 _ ?side1 ?side2 ?side3 A8.out).mono ?_
          (case side1 => exact HO_168002.out)
          (case side2 => repeat (first | exact (Kd.C_below HR168_0.out HB.out) | (with_reducible refine Kd.C_alloc ?_ _) | (with_reducible refine Kd.C_drewN ?_ _) | (with_reducible refine Kd.C_drew ?_)))
          (case side3 => exact HC168_0.out)
          rintro e w16 ⟨v172, v175, rfl, ho0, ho1, hb⟩
          refine ⟨_, rfl, ?_⟩
          have n0_ := Aside0.mk (Kd.N_elder' (Kd.pN HO_5.out) (Kd.N_base ho1) hb)
          have n1_ := Aside0.mk (Kd.V_elder' (Kd.pV HO_168002.out) (Kd.N_base ho1) hb)
          have n2_ := Aside0.mk (Kd.V_lower (Kd.V_mono (ok' := fun k_ => (w.heap.size ≤ k_) ∧ some k_ ≠ (v175 : Value).ownBlock ∧ some k_ ≠ (u5 : Value).ownBlock ∧ k_ ≠ gb166 ∧ k_ ≠ gb167) ho0 (fun k_ hk_ => ⟨Or.elim hk_.1 (fun hs_ => hs_.1) (fun hn_ => (Nat.le_trans (below_size (by repeat (first | (with_reducible first | exact HB.out | apply below_alloc | apply pw_below_drewN | apply below_drew1 | refine below_set ?_ GE166.out | refine below_set ?_ GE167.out) | exact HB.out))) hn_)), hk_.2, Or.elim hk_.1 (fun hs_ => hs_.2.1) (fun hn_ => (Kd.fresh' (Kd.N_lt (Kd.pN HO_5.out)) k_ hn_)), Or.elim hk_.1 (fun hs_ => hs_.2.2.1) (fun hn_ => (Kd.freshB (g := gb166) (o := .cells #[.int .i64 0, .string (⟨#[]⟩ : ByteArray), .slice none 0 0] 24 (0, 0)) (pB BK166.out) k_ hn_)), Or.elim hk_.1 (fun hs_ => hs_.2.2.2) (fun hn_ => (Kd.freshB (g := gb167) (o := .cells #[.int .i64 x168000_1, .string x168001_1, .slice Ao14 x168002_1.length co14] 24 (0, 0)) (pB BK167.out) k_ hn_))⟩)) (below_size (by repeat (first | (with_reducible first | exact HB.out | apply below_alloc | apply pw_below_drewN | apply below_drew1 | refine below_set ?_ GE166.out | refine below_set ?_ GE167.out) | exact HB.out))))
          have n3_ := Aside0.mk (Kd.N_lower (Kd.N_mono (ok' := fun k_ => (w.heap.size ≤ k_) ∧ some k_ ≠ (u5 : Value).ownBlock ∧ k_ ≠ gb166 ∧ k_ ≠ gb167) ho1 (fun k_ hk_ => ⟨Or.elim hk_ (fun hs_ => hs_.1) (fun hn_ => (Nat.le_trans (below_size (by repeat (first | (with_reducible first | exact HB.out | apply below_alloc | apply pw_below_drewN | apply below_drew1 | refine below_set ?_ GE166.out | refine below_set ?_ GE167.out) | exact HB.out))) hn_)), Or.elim hk_ (fun hs_ => hs_.2.1) (fun hn_ => (Kd.fresh' (Kd.N_lt (Kd.pN HO_5.out)) k_ hn_)), Or.elim hk_ (fun hs_ => hs_.2.2.1) (fun hn_ => (Kd.freshB (g := gb166) (o := .cells #[.int .i64 0, .string (⟨#[]⟩ : ByteArray), .slice none 0 0] 24 (0, 0)) (pB BK166.out) k_ hn_)), Or.elim hk_ (fun hs_ => hs_.2.2.2) (fun hn_ => (Kd.freshB (g := gb167) (o := .cells #[.int .i64 x168000_1, .string x168001_1, .slice Ao14 x168002_1.length co14] 24 (0, 0)) (pB BK167.out) k_ hn_))⟩)) (below_size (by repeat (first | (with_reducible first | exact HB.out | apply below_alloc | apply pw_below_drewN | apply below_drew1 | refine below_set ?_ GE166.out | refine below_set ?_ GE167.out) | exact HB.out))))
          have n4_ := Aside0.mk (blk_below (g := gb166) (o := .cells #[.int .i64 0, .string (⟨#[]⟩ : ByteArray), .slice none 0 0] 24 (0, 0)) (pB BK166.out) hb)
          have n5_ := Aside0.mk (blk_below (g := gb167) (o := .cells #[.int .i64 x168000_1, .string x168001_1, .slice Ao14 x168002_1.length co14] 24 (0, 0)) (pB BK167.out) hb)
          have n6_ := Aside0.mk (below_step (by repeat (first | (with_reducible first | exact HB.out | apply below_alloc | apply pw_below_drewN | apply below_drew1 | refine below_set ?_ GE166.out | refine below_set ?_ GE167.out) | exact HB.out)) hb)
          clear HO_5
          clear HO_168002
          clear BK166
          clear BK167
          clear HB
          have HO_5 := n0_
          have HO_168002 := n1_
          have HO173 := n2_
          have HO176 := n3_
          have BK166 := n4_
          have BK167 := n5_
          have HB := n6_
          clear n0_ n1_ n2_ n3_ n4_ n5_ n6_
          (try clear hb)
          (try clear hb2)
          (try clear hk)
          (try clear hi)
          (try clear ho0)
          (try clear ho1)
          refine hK.out _ _ ⟨(blk_cell BK167.out 0).trans rfl, (blk_cell BK167.out 1).trans rfl, (blk_cell BK167.out 2).trans rfl, ((HB.out.cell (World.block_lt_of_cell? w _ hw168_0)).trans (by first | exact hw168_0 | (rw [hw168_0, ← Nbq10.out]))), ((HB.out.cell (World.block_lt_of_cell? w _ hw168_1)).trans (by first | exact hw168_1 | (rw [hw168_1, ← Nbq10.out])))⟩ (fun hHeld => ?_)
          clear hK K
          refine norm_ (a' := ?_) ?_ ?_
          rotate_left
          ·
           show Act.put _ (some 23) _ = _
           simp only [Act.put, List.setIfInBounds_toArray, List.set_cons_zero, List.set_cons_succ, i64_w, i32_w]
           rfl
          refine pure_ (i := 7) (N := some 16) (v := ?_) (a' := ?_) #[true, true, true, true, true, true, true, true, false, false, false, false, false] rfl rfl (any_of HT_.out (by kernel_rfl)) (fun _ _ _ h => h) (Or.inl ⟨by rfl, ?_⟩) ?_ ?_
          rotate_left
          ·
           intro w'
           go_simp
           with_reducible rfl
          rotate_left
          ·
           simp only [Act.put, List.setIfInBounds_toArray, List.set_cons_zero, List.set_cons_succ, i64_w, i32_w]
           rfl
          refine pure_ (i := 8) (N := some 24) (v := ?_) (a' := ?_) #[true, true, true, true, true, true, true, true, true, false, false, false, false] rfl rfl (any_of HT_.out (by kernel_rfl)) (fun _ _ _ h => h) (Or.inl ⟨by rfl, ?_⟩) ?_ ?_
          rotate_left
          ·
           intro w'
           go_simp
           with_reducible rfl
          rotate_left
          ·
           simp only [Act.put, List.setIfInBounds_toArray, List.set_cons_zero, List.set_cons_succ, i64_w, i32_w]
           rfl
          refine pure_ (i := 9) (N := some 25) (v := ?_) (a' := ?_) #[true, true, true, true, true, true, true, true, true, true, false, false, false] rfl rfl (any_of HT_.out (by kernel_rfl)) (fun _ _ _ h => h) (Or.inl ⟨by rfl, ?_⟩) ?_ ?_
          rotate_left
          ·
           intro w'
           go_simp
           with_reducible rfl
          rotate_left
          ·
           simp only [Act.put, List.setIfInBounds_toArray, List.set_cons_zero, List.set_cons_succ, i64_w, i32_w]
           rfl
          refine one_ (i := 10) (N := some 7) #[true, true, true, true, true, true, true, true, true, true, true, false, false] rfl rfl (one_of HT_.out (by kernel_rfl)) (by decide) (fun K hK => ?_)
          refine box_step ?hg (N := 7) ?hd (cs := #[.int .i64 0, .string (⟨#[]⟩ : ByteArray), .slice none 0 0]) (t := 24) ?hr ?_; (case hd => rfl); (case hg => rfl); (case hr => first | (go_simp; done) | (go_simp; rfl))
          intro gb177 hg w17 hbox hb
          have n0_ := Aside0.mk (Kd.N_below (Kd.N_elderB (Kd.pN HO_5.out) gb177 (Nat.le_of_eq hg.symm)) hb)
          have n1_ := Aside0.mk (Kd.V_below (Kd.V_elderB (Kd.pV HO_168002.out) gb177 (Nat.le_of_eq hg.symm)) hb)
          have n2_ := Aside0.mk (Kd.V_below (Kd.V_elderB (Kd.pV HO173.out) gb177 (Nat.le_of_eq hg.symm)) hb)
          have n3_ := Aside0.mk (Kd.N_below (Kd.N_elderB (Kd.pN HO176.out) gb177 (Nat.le_of_eq hg.symm)) hb)
          have n4_ := Aside0.mk (blk_below (g := gb166) (o := .cells #[.int .i64 0, .string (⟨#[]⟩ : ByteArray), .slice none 0 0] 24 (0, 0)) (pB BK166.out) hb)
          have n5_ := Aside0.mk (blk_below (g := gb167) (o := .cells #[.int .i64 x168000_1, .string x168001_1, .slice Ao14 x168002_1.length co14] 24 (0, 0)) (pB BK167.out) hb)
          have n6_ := Aside0.mk (below_step (by repeat (first | (with_reducible first | exact HB.out | apply below_alloc | apply pw_below_drewN | apply below_drew1 | refine below_set ?_ GE166.out | refine below_set ?_ GE167.out) | exact HB.out)) hb)
          have n7_ := Aside0.mk (hbox)
          have n8_ := Aside0.mk ((by rw [hg]; exact (below_size (by repeat (first | (with_reducible first | exact HB.out | apply below_alloc | apply pw_below_drewN | apply below_drew1 | refine below_set ?_ GE166.out | refine below_set ?_ GE167.out) | exact HB.out))) : w.heap.size ≤ gb177))
          have n9_ := Aside0.mk ((by rw [hg]; exact (below_size (by repeat (first | (with_reducible first | exact HB.out | apply below_alloc | apply pw_below_drewN | apply below_drew1 | refine below_set ?_ GE166.out | refine below_set ?_ GE167.out) | exact HB.out))) : w.heap.size ≤ gb177))
          have n10_ := Aside0.mk ((by rw [hg]; exact Nat.ne_of_lt (blk_lt (g := gb166) (o := .cells #[.int .i64 0, .string (⟨#[]⟩ : ByteArray), .slice none 0 0] 24 (0, 0)) (pB BK166.out)) : gb166 ≠ gb177))
          have n11_ := Aside0.mk ((by rw [hg]; exact Nat.ne_of_gt (blk_lt (g := gb166) (o := .cells #[.int .i64 0, .string (⟨#[]⟩ : ByteArray), .slice none 0 0] 24 (0, 0)) (pB BK166.out)) : gb177 ≠ gb166))
          have n12_ := Aside0.mk ((by rw [hg]; exact Nat.ne_of_lt (blk_lt (g := gb167) (o := .cells #[.int .i64 x168000_1, .string x168001_1, .slice Ao14 x168002_1.length co14] 24 (0, 0)) (pB BK167.out)) : gb167 ≠ gb177))
          have n13_ := Aside0.mk ((by rw [hg]; exact Nat.ne_of_gt (blk_lt (g := gb167) (o := .cells #[.int .i64 x168000_1, .string x168001_1, .slice Ao14 x168002_1.length co14] 24 (0, 0)) (pB BK167.out)) : gb177 ≠ gb167))
          clear HO_5
          clear HO_168002
          clear HO173
          clear HO176
          clear BK166
          clear BK167
          clear HB
          have HO_5 := n0_
          have HO_168002 := n1_
          have HO173 := n2_
          have HO176 := n3_
          have BK166 := n4_
          have BK167 := n5_
          have HB := n6_
          have BK177 := n7_
          have GW177 := n8_
          have GE177 := n9_
          have NB166_177 := n10_
          have NB177_166 := n11_
          have NB167_177 := n12_
          have NB177_167 := n13_
          clear n0_ n1_ n2_ n3_ n4_ n5_ n6_ n7_ n8_ n9_ n10_ n11_ n12_ n13_
          clear hb hbox hg
          refine hK.out _ _ ⟨(blk_cell BK167.out 0).trans rfl, (blk_cell BK167.out 1).trans rfl, (blk_cell BK167.out 2).trans rfl, ((HB.out.cell (World.block_lt_of_cell? w _ hw168_0)).trans (by first | exact hw168_0 | (rw [hw168_0, ← Nbq10.out]))), ((HB.out.cell (World.block_lt_of_cell? w _ hw168_1)).trans (by first | exact hw168_1 | (rw [hw168_1, ← Nbq10.out])))⟩ (fun hHeld => ?_)
          clear hK K
          refine norm_ (a' := ?_) ?_ ?_
          rotate_left
          ·
           show Act.put _ (some 7) _ = _
           simp only [Act.put, List.setIfInBounds_toArray, List.set_cons_zero, List.set_cons_succ, i64_w, i32_w]
           rfl
          exact norm_ (by simp only [putAll, Act.put, List.setIfInBounds_toArray, List.set_cons_zero, List.set_cons_succ]) (hCont (v172, v175, gb177) _ ⟨hHeld, (Kd.pV (Kd.V_mono HO173.out (fun _ hk => ⟨hk.1.1, ⟨hk.1.2.1, ⟨hk.1.2.2.1, ⟨hk.1.2.2.2.1, ⟨hk.1.2.2.2.2, hk.2⟩⟩⟩⟩⟩))), (Kd.pN (Kd.N_mono HO176.out (fun _ hk => ⟨hk.1.1, ⟨hk.1.2.1, ⟨hk.1.2.2.1, ⟨hk.1.2.2.2, hk.2⟩⟩⟩⟩))), (Kd.pV (Kd.V_mono HO_168002.out (fun _ hk => ⟨hk.1.1.1, ⟨hk.1.2, ⟨hk.1.1.2.1, ⟨hk.1.1.2.2.1, ⟨hk.1.1.2.2.2, hk.2⟩⟩⟩⟩⟩))), (Kd.pN (Kd.N_mono HO_5.out (fun _ hk => ⟨hk.1.1.1, ⟨hk.1.2, ⟨hk.1.1.2.1, ⟨hk.1.1.2.2, hk.2⟩⟩⟩⟩))), (pB BK166.out), (pB BK167.out), (pB BK177.out), GW177.out, GE177.out, NB166_177.out, NB177_166.out, NB167_177.out, NB177_167.out, (by repeat (first | (with_reducible first | exact HB.out | apply below_alloc | apply pw_below_drewN | apply below_drew1 | refine below_set ?_ GE166.out | refine below_set ?_ GE167.out | refine below_set ?_ GE177.out) | exact HB.out))⟩)
         ·
          skip
          refine box_step ?hg (N := 7) ?hd (cs := #[.int .i64 0, .string (⟨#[]⟩ : ByteArray), .slice none 0 0]) (t := 24) ?hr ?_; (case hd => rfl); (case hg => rfl); (case hr => first | (go_simp; done) | (go_simp; rfl))
          intro gb177 hg w16 hbox hb
          have n0_ := Aside0.mk (Kd.N_below (Kd.N_elderB (Kd.pN HO_5.out) gb177 (Nat.le_of_eq hg.symm)) hb)
          have n1_ := Aside0.mk (Kd.V_below (Kd.V_elderB (Kd.pV HO_168002.out) gb177 (Nat.le_of_eq hg.symm)) hb)
          have n2_ := Aside0.mk (blk_below (g := gb166) (o := .cells #[.int .i64 0, .string (⟨#[]⟩ : ByteArray), .slice none 0 0] 24 (0, 0)) (pB BK166.out) hb)
          have n3_ := Aside0.mk (blk_below (g := gb167) (o := .cells #[.int .i64 x168000_1, .string x168001_1, .slice Ao14 x168002_1.length co14] 24 (0, 0)) (pB BK167.out) hb)
          have n4_ := Aside0.mk (below_step (by repeat (first | (with_reducible first | exact HB.out | apply below_alloc | apply pw_below_drewN | apply below_drew1 | refine below_set ?_ GE166.out | refine below_set ?_ GE167.out) | exact HB.out)) hb)
          have n5_ := Aside0.mk (hbox)
          have n6_ := Aside0.mk ((by rw [hg]; exact (below_size (by repeat (first | (with_reducible first | exact HB.out | apply below_alloc | apply pw_below_drewN | apply below_drew1 | refine below_set ?_ GE166.out | refine below_set ?_ GE167.out) | exact HB.out))) : w.heap.size ≤ gb177))
          have n7_ := Aside0.mk ((by rw [hg]; exact (below_size (by repeat (first | (with_reducible first | exact HB.out | apply below_alloc | apply pw_below_drewN | apply below_drew1 | refine below_set ?_ GE166.out | refine below_set ?_ GE167.out) | exact HB.out))) : w.heap.size ≤ gb177))
          have n8_ := Aside0.mk ((by rw [hg]; exact Nat.ne_of_lt (blk_lt (g := gb166) (o := .cells #[.int .i64 0, .string (⟨#[]⟩ : ByteArray), .slice none 0 0] 24 (0, 0)) (pB BK166.out)) : gb166 ≠ gb177))
          have n9_ := Aside0.mk ((by rw [hg]; exact Nat.ne_of_gt (blk_lt (g := gb166) (o := .cells #[.int .i64 0, .string (⟨#[]⟩ : ByteArray), .slice none 0 0] 24 (0, 0)) (pB BK166.out)) : gb177 ≠ gb166))
          have n10_ := Aside0.mk ((by rw [hg]; exact Nat.ne_of_lt (blk_lt (g := gb167) (o := .cells #[.int .i64 x168000_1, .string x168001_1, .slice Ao14 x168002_1.length co14] 24 (0, 0)) (pB BK167.out)) : gb167 ≠ gb177))
          have n11_ := Aside0.mk ((by rw [hg]; exact Nat.ne_of_gt (blk_lt (g := gb167) (o := .cells #[.int .i64 x168000_1, .string x168001_1, .slice Ao14 x168002_1.length co14] 24 (0, 0)) (pB BK167.out)) : gb177 ≠ gb167))
          clear HO_5
          clear HO_168002
          clear BK166
          clear BK167
          clear HB
          have HO_5 := n0_
          have HO_168002 := n1_
          have BK166 := n2_
          have BK167 := n3_
          have HB := n4_
          have BK177 := n5_
          have GW177 := n6_
          have GE177 := n7_
          have NB166_177 := n8_
          have NB177_166 := n9_
          have NB167_177 := n10_
          have NB177_167 := n11_
          clear n0_ n1_ n2_ n3_ n4_ n5_ n6_ n7_ n8_ n9_ n10_ n11_
          clear hb hbox hg
          refine hK.out _ _ ⟨(blk_cell BK167.out 0).trans rfl, (blk_cell BK167.out 1).trans rfl, (blk_cell BK167.out 2).trans rfl, ((HB.out.cell (World.block_lt_of_cell? w _ hw168_0)).trans (by first | exact hw168_0 | (rw [hw168_0, ← Nbq10.out]))), ((HB.out.cell (World.block_lt_of_cell? w _ hw168_1)).trans (by first | exact hw168_1 | (rw [hw168_1, ← Nbq10.out])))⟩ (fun hHeld => ?_)
          clear hK K
          refine norm_ (a' := ?_) ?_ ?_
          rotate_left
          ·
           show Act.put _ (some 7) _ = _
           simp only [Act.put, List.setIfInBounds_toArray, List.set_cons_zero, List.set_cons_succ, i64_w, i32_w]
           rfl
          refine one_ (i := 6) (N := some 23) #[true, true, true, true, true, true, true, false, false, false, true, false, false] rfl rfl (one_of HT_.out (by kernel_rfl)) (by decide) (fun K hK => ?_)
          refine goes_ Try.func17 (by kernel_rfl) rfl #[.agg #[.int .i64 x168000_1, .string x168001_1, .slice Ao14 x168002_1.length co14], .slice A168_0 ((rd_T42 l0 x6_1).f0).length c168_0] (by rfl) rfl rfl (by (try simp only [List.map_toArray, List.map_cons, List.map_nil]); first | done | rfl | (simp only [List.length_drop, List.length_take]; rfl)) ?_
          with_reducible refine (cut_Feed.calls k1 x168000_1 x168001_1 (fun k_ => (((w.heap.size ≤ k_) ∧ (some k_ ≠ (u5 : Value).ownBlock ∧ (k_ ≠ gb166 ∧ k_ ≠ gb167))) ∧ k_ ≠ gb177)) _ _ x168002_1 _ _ ((rd_T42 l0 x6_1).f0) t169 t170 t171 t174 _ ?side1 ?side2 ?side3 A8.out).mono ?_
          (case side1 => exact HO_168002.out)
          (case side2 => repeat (first | exact (Kd.C_below HR168_0.out HB.out) | (with_reducible refine Kd.C_alloc ?_ _) | (with_reducible refine Kd.C_drewN ?_ _) | (with_reducible refine Kd.C_drew ?_)))
          (case side3 => exact HC168_0.out)
          rintro e w17 ⟨v172, v175, rfl, ho0, ho1, hb⟩
          refine ⟨_, rfl, ?_⟩
          have n0_ := Aside0.mk (Kd.N_elder' (Kd.pN HO_5.out) (Kd.N_base ho1) hb)
          have n1_ := Aside0.mk (Kd.V_elder' (Kd.pV HO_168002.out) (Kd.N_base ho1) hb)
          have n2_ := Aside0.mk (Kd.V_lower (Kd.V_mono (ok' := fun k_ => (w.heap.size ≤ k_) ∧ some k_ ≠ (v175 : Value).ownBlock ∧ some k_ ≠ (u5 : Value).ownBlock ∧ k_ ≠ gb166 ∧ k_ ≠ gb167 ∧ k_ ≠ gb177) ho0 (fun k_ hk_ => ⟨Or.elim hk_.1 (fun hs_ => hs_.1.1) (fun hn_ => (Nat.le_trans (below_size (by repeat (first | (with_reducible first | exact HB.out | apply below_alloc | apply pw_below_drewN | apply below_drew1 | refine below_set ?_ GE166.out | refine below_set ?_ GE167.out | refine below_set ?_ GE177.out) | exact HB.out))) hn_)), hk_.2, Or.elim hk_.1 (fun hs_ => hs_.1.2.1) (fun hn_ => (Kd.fresh' (Kd.N_lt (Kd.pN HO_5.out)) k_ hn_)), Or.elim hk_.1 (fun hs_ => hs_.1.2.2.1) (fun hn_ => (Kd.freshB (g := gb166) (o := .cells #[.int .i64 0, .string (⟨#[]⟩ : ByteArray), .slice none 0 0] 24 (0, 0)) (pB BK166.out) k_ hn_)), Or.elim hk_.1 (fun hs_ => hs_.1.2.2.2) (fun hn_ => (Kd.freshB (g := gb167) (o := .cells #[.int .i64 x168000_1, .string x168001_1, .slice Ao14 x168002_1.length co14] 24 (0, 0)) (pB BK167.out) k_ hn_)), Or.elim hk_.1 (fun hs_ => hs_.2) (fun hn_ => (Kd.freshB (g := gb177) (o := .cells #[.int .i64 0, .string (⟨#[]⟩ : ByteArray), .slice none 0 0] 24 (0, 0)) (pB BK177.out) k_ hn_))⟩)) (below_size (by repeat (first | (with_reducible first | exact HB.out | apply below_alloc | apply pw_below_drewN | apply below_drew1 | refine below_set ?_ GE166.out | refine below_set ?_ GE167.out | refine below_set ?_ GE177.out) | exact HB.out))))
          have n3_ := Aside0.mk (Kd.N_lower (Kd.N_mono (ok' := fun k_ => (w.heap.size ≤ k_) ∧ some k_ ≠ (u5 : Value).ownBlock ∧ k_ ≠ gb166 ∧ k_ ≠ gb167 ∧ k_ ≠ gb177) ho1 (fun k_ hk_ => ⟨Or.elim hk_ (fun hs_ => hs_.1.1) (fun hn_ => (Nat.le_trans (below_size (by repeat (first | (with_reducible first | exact HB.out | apply below_alloc | apply pw_below_drewN | apply below_drew1 | refine below_set ?_ GE166.out | refine below_set ?_ GE167.out | refine below_set ?_ GE177.out) | exact HB.out))) hn_)), Or.elim hk_ (fun hs_ => hs_.1.2.1) (fun hn_ => (Kd.fresh' (Kd.N_lt (Kd.pN HO_5.out)) k_ hn_)), Or.elim hk_ (fun hs_ => hs_.1.2.2.1) (fun hn_ => (Kd.freshB (g := gb166) (o := .cells #[.int .i64 0, .string (⟨#[]⟩ : ByteArray), .slice none 0 0] 24 (0, 0)) (pB BK166.out) k_ hn_)), Or.elim hk_ (fun hs_ => hs_.1.2.2.2) (fun hn_ => (Kd.freshB (g := gb167) (o := .cells #[.int .i64 x168000_1, .string x168001_1, .slice Ao14 x168002_1.length co14] 24 (0, 0)) (pB BK167.out) k_ hn_)), Or.elim hk_ (fun hs_ => hs_.2) (fun hn_ => (Kd.freshB (g := gb177) (o := .cells #[.int .i64 0, .string (⟨#[]⟩ : ByteArray), .slice none 0 0] 24 (0, 0)) (pB BK177.out) k_ hn_))⟩)) (below_size (by repeat (first | (with_reducible first | exact HB.out | apply below_alloc | apply pw_below_drewN | apply below_drew1 | refine below_set ?_ GE166.out | refine below_set ?_ GE167.out | refine below_set ?_ GE177.out) | exact HB.out))))
          have n4_ := Aside0.mk (blk_below (g := gb166) (o := .cells #[.int .i64 0, .string (⟨#[]⟩ : ByteArray), .slice none 0 0] 24 (0, 0)) (pB BK166.out) hb)
          have n5_ := Aside0.mk (blk_below (g := gb167) (o := .cells #[.int .i64 x168000_1, .string x168001_1, .slice Ao14 x168002_1.length co14] 24 (0, 0)) (pB BK167.out) hb)
          have n6_ := Aside0.mk (blk_below (g := gb177) (o := .cells #[.int .i64 0, .string (⟨#[]⟩ : ByteArray), .slice none 0 0] 24 (0, 0)) (pB BK177.out) hb)
          have n7_ := Aside0.mk (below_step (by repeat (first | (with_reducible first | exact HB.out | apply below_alloc | apply pw_below_drewN | apply below_drew1 | refine below_set ?_ GE166.out | refine below_set ?_ GE167.out | refine below_set ?_ GE177.out) | exact HB.out)) hb)
          clear HO_5
          clear HO_168002
          clear BK166
          clear BK167
          clear BK177
          clear HB
          have HO_5 := n0_
          have HO_168002 := n1_
          have HO173 := n2_
          have HO176 := n3_
          have BK166 := n4_
          have BK167 := n5_
          have BK177 := n6_
          have HB := n7_
          clear n0_ n1_ n2_ n3_ n4_ n5_ n6_ n7_
          (try clear hb)
          (try clear hb2)
          (try clear hk)
          (try clear hi)
          (try clear ho0)
          (try clear ho1)
          refine hK.out _ _ ⟨(blk_cell BK167.out 0).trans rfl, (blk_cell BK167.out 1).trans rfl, (blk_cell BK167.out 2).trans rfl, ((HB.out.cell (World.block_lt_of_cell? w _ hw168_0)).trans (by first | exact hw168_0 | (rw [hw168_0, ← Nbq10.out]))), ((HB.out.cell (World.block_lt_of_cell? w _ hw168_1)).trans (by first | exact hw168_1 | (rw [hw168_1, ← Nbq10.out])))⟩ (fun hHeld => ?_)
          clear hK K
          refine norm_ (a' := ?_) ?_ ?_
          rotate_left
          ·
           show Act.put _ (some 23) _ = _
           simp only [Act.put, List.setIfInBounds_toArray, List.set_cons_zero, List.set_cons_succ, i64_w, i32_w]
           rfl
          refine pure_ (i := 7) (N := some 16) (v := ?_) (a' := ?_) #[true, true, true, true, true, true, true, true, false, false, true, false, false] rfl rfl (any_of HT_.out (by kernel_rfl)) (fun _ _ _ h => h) (Or.inl ⟨by rfl, ?_⟩) ?_ ?_
          rotate_left
          ·
           intro w'
           go_simp
           with_reducible rfl
          rotate_left
          ·
           simp only [Act.put, List.setIfInBounds_toArray, List.set_cons_zero, List.set_cons_succ, i64_w, i32_w]
           rfl
          refine pure_ (i := 8) (N := some 24) (v := ?_) (a' := ?_) #[true, true, true, true, true, true, true, true, true, false, true, false, false] rfl rfl (any_of HT_.out (by kernel_rfl)) (fun _ _ _ h => h) (Or.inl ⟨by rfl, ?_⟩) ?_ ?_
          rotate_left
          ·
           intro w'
           go_simp
           with_reducible rfl
          rotate_left
          ·
           simp only [Act.put, List.setIfInBounds_toArray, List.set_cons_zero, List.set_cons_succ, i64_w, i32_w]
           rfl
          refine pure_ (i := 9) (N := some 25) (v := ?_) (a' := ?_) #[true, true, true, true, true, true, true, true, true, true, true, false, false] rfl rfl (any_of HT_.out (by kernel_rfl)) (fun _ _ _ h => h) (Or.inl ⟨by rfl, ?_⟩) ?_ ?_
          rotate_left
          ·
           intro w'
           go_simp
           with_reducible rfl
          rotate_left
          ·
           simp only [Act.put, List.setIfInBounds_toArray, List.set_cons_zero, List.set_cons_succ, i64_w, i32_w]
           rfl
          exact norm_ (by simp only [putAll, Act.put, List.setIfInBounds_toArray, List.set_cons_zero, List.set_cons_succ]) (hCont (v172, v175, gb177) _ ⟨hHeld, (Kd.pV HO173.out), (Kd.pN HO176.out), (Kd.pV (Kd.V_mono HO_168002.out (fun _ hk => ⟨hk.1.1.1, ⟨hk.2, ⟨hk.1.1.2.1, ⟨hk.1.1.2.2.1, ⟨hk.1.1.2.2.2, hk.1.2⟩⟩⟩⟩⟩))), (Kd.pN (Kd.N_mono HO_5.out (fun _ hk => ⟨hk.1.1.1, ⟨hk.2, ⟨hk.1.1.2.1, ⟨hk.1.1.2.2, hk.1.2⟩⟩⟩⟩))), (pB BK166.out), (pB BK167.out), (pB BK177.out), GW177.out, GE177.out, NB166_177.out, NB177_166.out, NB167_177.out, NB177_167.out, (by repeat (first | (with_reducible first | exact HB.out | apply below_alloc | apply pw_below_drewN | apply below_drew1 | refine below_set ?_ GE166.out | refine below_set ?_ GE167.out | refine below_set ?_ GE177.out) | exact HB.out))⟩)
        rintro ⟨v172, v175, gb177⟩ w18 ⟨hS_, h0_, h1_, h2_, h3_, h4_, h5_, h6_, h7_, h8_, h9_, h10_, h11_, h12_, h13_⟩
        have n0_ : Aside0 (Kd.V Kd.string 9 w18 w.heap.size (fun k_ => (w.heap.size ≤ k_) ∧ some k_ ≠ (v175 : Value).ownBlock ∧ some k_ ≠ (u5 : Value).ownBlock ∧ k_ ≠ gb166 ∧ k_ ≠ gb167 ∧ k_ ≠ gb177) v172 t171) := ⟨h0_⟩
        have n1_ : Aside0 (Kd.N k25 25 w18 w.heap.size (fun k_ => (w.heap.size ≤ k_) ∧ some k_ ≠ (u5 : Value).ownBlock ∧ k_ ≠ gb166 ∧ k_ ≠ gb167 ∧ k_ ≠ gb177) v175 t174) := ⟨h1_⟩
        have n2_ : Aside0 (Kd.V Kd.string 9 w18 w.heap.size (fun k_ => (w.heap.size ≤ k_) ∧ some k_ ≠ (v175 : Value).ownBlock ∧ some k_ ≠ (u5 : Value).ownBlock ∧ k_ ≠ gb166 ∧ k_ ≠ gb167 ∧ k_ ≠ gb177) (.slice Ao14 x168002_1.length co14) x168002_1) := ⟨h2_⟩
        have n3_ : Aside0 (Kd.N k25 25 w18 w.heap.size (fun k_ => (w.heap.size ≤ k_) ∧ some k_ ≠ (v175 : Value).ownBlock ∧ k_ ≠ gb166 ∧ k_ ≠ gb167 ∧ k_ ≠ gb177) u5 x5_1) := ⟨h3_⟩
        have n4_ : Aside0 (w18.heap[gb166]? = some (.cells #[.int .i64 0, .string (⟨#[]⟩ : ByteArray), .slice none 0 0] 24 (0, 0))) := ⟨h4_⟩
        have n5_ : Aside0 (w18.heap[gb167]? = some (.cells #[.int .i64 x168000_1, .string x168001_1, .slice Ao14 x168002_1.length co14] 24 (0, 0))) := ⟨h5_⟩
        have n6_ : Aside0 (w18.heap[gb177]? = some (.cells #[.int .i64 0, .string (⟨#[]⟩ : ByteArray), .slice none 0 0] 24 (0, 0))) := ⟨h6_⟩
        have n7_ : Aside0 (w.heap.size ≤ gb177) := ⟨h7_⟩
        have n8_ : Aside0 (w.heap.size ≤ gb177) := ⟨h8_⟩
        have n9_ : Aside0 (gb166 ≠ gb177) := ⟨h9_⟩
        have n10_ : Aside0 (gb177 ≠ gb166) := ⟨h10_⟩
        have n11_ : Aside0 (gb167 ≠ gb177) := ⟨h11_⟩
        have n12_ : Aside0 (gb177 ≠ gb167) := ⟨h12_⟩
        have n13_ : Aside0 (Below w.heap.size w w18) := ⟨h13_⟩
        clear HO_5
        clear HO_168002
        clear BK166
        clear BK167
        clear HB
        clear h0_ h1_ h2_ h3_ h4_ h5_ h6_ h7_ h8_ h9_ h10_ h11_ h12_ h13_
        have HO173 := n0_
        have HO176 := n1_
        have HO_168002 := n2_
        have HO_5 := n3_
        have BK166 := n4_
        have BK167 := n5_
        have BK177 := n6_
        have GW177 := n7_
        have GE177 := n8_
        have NB166_177 := n9_
        have NB177_166 := n10_
        have NB167_177 := n11_
        have NB177_167 := n12_
        have HB := n13_
        clear n0_ n1_ n2_ n3_ n4_ n5_ n6_ n7_ n8_ n9_ n10_ n11_ n12_ n13_
        have hHeld : w18.cell? ⟨gb167, 0, none⟩ = some (.int .i64 x168000_1) ∧ w18.cell? ⟨gb167, 1, none⟩ = some (.string x168001_1) ∧ w18.cell? ⟨gb167, 2, none⟩ = some (.slice Ao14 x168002_1.length co14) ∧ w18.cell? (ad168.add ((x6_1).toNat * 2)) = some (.slice A168_0 ((rd_T42 l0 x6_1).f0).length c168_0) ∧ w18.cell? ⟨(ad168.add ((x6_1).toNat * 2)).block, (ad168.add ((x6_1).toNat * 2)).off + 1, none⟩ = some (.bool true) := hS_
        obtain ⟨Ao21, co21, eo21⟩ := Kd.V_slice HO173.out
        (first | subst eo21 | (injection eo21 with f1_ f2_ f3_; have f4_ := f1_.symm; have f5_ := f3_.symm; clear f1_ f2_ f3_; subst f4_; subst f5_))
        refine norm_ (a' := ?_) ?_ ?_
        rotate_left
        ·
         simp only [putAll, Act.put, List.setIfInBounds_toArray, List.set_cons_zero, List.set_cons_succ]
         rfl
        refine one_ (i := 11) (N := none) #[true, true, true, true, true, true, true, true, true, true, true, true, false] rfl rfl (one_of HT_.out (by kernel_rfl)) (by decide) (fun K hK => ?_)
        have hs19 : w18.cell? ⟨gb177, 0, none⟩ = some (.int .i64 0) := (blk_cell BK177.out 0).trans rfl
        have hfs19 := blk_frozen BK177.out 0
        have hns19_0 := NB166_177.out
        have hns19_1 := NB167_177.out
        have hms19_0 := NB177_166.out
        have hms19_1 := NB177_167.out
        have hs20 : w18.cell? ⟨gb177, 1, none⟩ = some (.string (⟨#[]⟩ : ByteArray)) := (blk_cell BK177.out 1).trans rfl
        have hfs20 := blk_frozen BK177.out 1
        have hns20_0 := NB166_177.out
        have hns20_1 := NB167_177.out
        have hms20_0 := NB177_166.out
        have hms20_1 := NB177_167.out
        have hs22 : w18.cell? ⟨gb177, 2, none⟩ = some (.slice none 0 0) := (blk_cell BK177.out 2).trans rfl
        have hfs22 := blk_frozen BK177.out 2
        have hns22_0 := NB166_177.out
        have hns22_1 := NB167_177.out
        have hms22_0 := NB177_166.out
        have hms22_1 := NB177_167.out
        refine skip_ (w1 := ?_) (by rfl) rfl ?_ ?_
        rotate_left
        ·
         go_simp
         rfl
        refine hK.out _ _ ⟨((cell_far (p := ⟨gb177, _, none⟩) NB167_177.out _).trans (((cell_far (p := ⟨gb177, _, none⟩) NB167_177.out _).trans (((cell_far (p := ⟨gb177, _, none⟩) NB167_177.out _).trans (hHeld.1)))))), ((cell_far (p := ⟨gb177, _, none⟩) NB167_177.out _).trans (((cell_far (p := ⟨gb177, _, none⟩) NB167_177.out _).trans (((cell_far (p := ⟨gb177, _, none⟩) NB167_177.out _).trans (hHeld.2.1)))))), ((cell_far (p := ⟨gb177, _, none⟩) NB167_177.out _).trans (((cell_far (p := ⟨gb177, _, none⟩) NB167_177.out _).trans (((cell_far (p := ⟨gb177, _, none⟩) NB167_177.out _).trans (hHeld.2.2.1)))))), ((cell_far (p := ⟨gb177, _, none⟩) (by first | exact Nat.ne_of_lt (Nat.lt_of_lt_of_le (by have := World.block_lt_of_cell? _ _ hw168_0; first | rwa [add_block] at this | exact this) GW177.out) | (rw [add_block]; exact Nat.ne_of_lt (Nat.lt_of_lt_of_le (by have := World.block_lt_of_cell? _ _ hw168_0; first | rwa [add_block] at this | exact this) GW177.out)) | (show (Addr.add _ _).block ≠ _; rw [add_block]; exact Nat.ne_of_lt (Nat.lt_of_lt_of_le (by have := World.block_lt_of_cell? _ _ hw168_0; first | rwa [add_block] at this | exact this) GW177.out)) | (dsimp only; exact Nat.ne_of_lt (Nat.lt_of_lt_of_le (by have := World.block_lt_of_cell? _ _ hw168_0; first | rwa [add_block] at this | exact this) GW177.out))) _).trans (((cell_far (p := ⟨gb177, _, none⟩) (by first | exact Nat.ne_of_lt (Nat.lt_of_lt_of_le (by have := World.block_lt_of_cell? _ _ hw168_0; first | rwa [add_block] at this | exact this) GW177.out) | (rw [add_block]; exact Nat.ne_of_lt (Nat.lt_of_lt_of_le (by have := World.block_lt_of_cell? _ _ hw168_0; first | rwa [add_block] at this | exact this) GW177.out)) | (show (Addr.add _ _).block ≠ _; rw [add_block]; exact Nat.ne_of_lt (Nat.lt_of_lt_of_le (by have := World.block_lt_of_cell? _ _ hw168_0; first | rwa [add_block] at this | exact this) GW177.out)) | (dsimp only; exact Nat.ne_of_lt (Nat.lt_of_lt_of_le (by have := World.block_lt_of_cell? _ _ hw168_0; first | rwa [add_block] at this | exact this) GW177.out))) _).trans (((cell_far (p := ⟨gb177, _, none⟩) (by first | exact Nat.ne_of_lt (Nat.lt_of_lt_of_le (by have := World.block_lt_of_cell? _ _ hw168_0; first | rwa [add_block] at this | exact this) GW177.out) | (rw [add_block]; exact Nat.ne_of_lt (Nat.lt_of_lt_of_le (by have := World.block_lt_of_cell? _ _ hw168_0; first | rwa [add_block] at this | exact this) GW177.out)) | (show (Addr.add _ _).block ≠ _; rw [add_block]; exact Nat.ne_of_lt (Nat.lt_of_lt_of_le (by have := World.block_lt_of_cell? _ _ hw168_0; first | rwa [add_block] at this | exact this) GW177.out)) | (dsimp only; exact Nat.ne_of_lt (Nat.lt_of_lt_of_le (by have := World.block_lt_of_cell? _ _ hw168_0; first | rwa [add_block] at this | exact this) GW177.out))) _).trans (hHeld.2.2.2.1)))))), ((cell_far (p := ⟨gb177, _, none⟩) (by first | exact Nat.ne_of_lt (Nat.lt_of_lt_of_le (by have := World.block_lt_of_cell? _ _ hw168_1; first | rwa [add_block] at this | exact this) GW177.out) | (rw [add_block]; exact Nat.ne_of_lt (Nat.lt_of_lt_of_le (by have := World.block_lt_of_cell? _ _ hw168_1; first | rwa [add_block] at this | exact this) GW177.out)) | (show (Addr.add _ _).block ≠ _; rw [add_block]; exact Nat.ne_of_lt (Nat.lt_of_lt_of_le (by have := World.block_lt_of_cell? _ _ hw168_1; first | rwa [add_block] at this | exact this) GW177.out)) | (dsimp only; exact Nat.ne_of_lt (Nat.lt_of_lt_of_le (by have := World.block_lt_of_cell? _ _ hw168_1; first | rwa [add_block] at this | exact this) GW177.out))) _).trans (((cell_far (p := ⟨gb177, _, none⟩) (by first | exact Nat.ne_of_lt (Nat.lt_of_lt_of_le (by have := World.block_lt_of_cell? _ _ hw168_1; first | rwa [add_block] at this | exact this) GW177.out) | (rw [add_block]; exact Nat.ne_of_lt (Nat.lt_of_lt_of_le (by have := World.block_lt_of_cell? _ _ hw168_1; first | rwa [add_block] at this | exact this) GW177.out)) | (show (Addr.add _ _).block ≠ _; rw [add_block]; exact Nat.ne_of_lt (Nat.lt_of_lt_of_le (by have := World.block_lt_of_cell? _ _ hw168_1; first | rwa [add_block] at this | exact this) GW177.out)) | (dsimp only; exact Nat.ne_of_lt (Nat.lt_of_lt_of_le (by have := World.block_lt_of_cell? _ _ hw168_1; first | rwa [add_block] at this | exact this) GW177.out))) _).trans (((cell_far (p := ⟨gb177, _, none⟩) (by first | exact Nat.ne_of_lt (Nat.lt_of_lt_of_le (by have := World.block_lt_of_cell? _ _ hw168_1; first | rwa [add_block] at this | exact this) GW177.out) | (rw [add_block]; exact Nat.ne_of_lt (Nat.lt_of_lt_of_le (by have := World.block_lt_of_cell? _ _ hw168_1; first | rwa [add_block] at this | exact this) GW177.out)) | (show (Addr.add _ _).block ≠ _; rw [add_block]; exact Nat.ne_of_lt (Nat.lt_of_lt_of_le (by have := World.block_lt_of_cell? _ _ hw168_1; first | rwa [add_block] at this | exact this) GW177.out)) | (dsimp only; exact Nat.ne_of_lt (Nat.lt_of_lt_of_le (by have := World.block_lt_of_cell? _ _ hw168_1; first | rwa [add_block] at this | exact this) GW177.out))) _).trans (hHeld.2.2.2.2))))))⟩ (fun hHeld => ?_)
        clear hK K
        refine pure_ (i := 12) (N := some 8) (v := ?_) (a' := ?_) #[true, true, true, true, true, true, true, true, true, true, true, true, true] rfl rfl (any_of HT_.out (by kernel_rfl)) (fun _ _ _ h => h) (Or.inl ⟨by rfl, ?_⟩) ?_ ?_
        rotate_left
        ·
         intro w'
         go_simp
         with_reducible rfl
        rotate_left
        ·
         simp only [Act.put, List.setIfInBounds_toArray, List.set_cons_zero, List.set_cons_succ, i64_w, i32_w]
         rfl
        refine done_ (done_of HT_.out (by kernel_rfl)) ?_
        have hnb23 := NB177_166.out
        have hnc23 := NB166_177.out
        have hnb24 := NB177_167.out
        have hnc24 := NB167_177.out
        have hcz25_0 : w18.cell? ⟨gb177, 0, none⟩ = some (.int .i64 0) := (blk_cell BK177.out 0).trans rfl
        have hcz25_1 : w18.cell? ⟨gb177, 1, none⟩ = some (.string (⟨#[]⟩ : ByteArray)) := (blk_cell BK177.out 1).trans rfl
        have hcz25_2 : w18.cell? ⟨gb177, 2, none⟩ = some (.slice none 0 0) := (blk_cell BK177.out 2).trans rfl
        have hfz25_0 := blk_frozen BK177.out 0
        have hfz25_1 := blk_frozen BK177.out 1
        have hfz25_2 := blk_frozen BK177.out 2
        have hnb26 := NB167_166.out
        have hnc26 := NB166_167.out
        have hcz27_0 : w18.cell? ⟨gb167, 0, none⟩ = some (.int .i64 x168000_1) := (blk_cell BK167.out 0).trans rfl
        have hcz27_1 : w18.cell? ⟨gb167, 1, none⟩ = some (.string x168001_1) := (blk_cell BK167.out 1).trans rfl
        have hcz27_2 : w18.cell? ⟨gb167, 2, none⟩ = some (.slice Ao14 x168002_1.length co14) := (blk_cell BK167.out 2).trans rfl
        have hfz27_0 := blk_frozen BK167.out 0
        have hfz27_1 := blk_frozen BK167.out 1
        have hfz27_2 := blk_frozen BK167.out 2
        obtain ⟨Ao29, co29, eo29⟩ := Kd.N_slice HO176.out
        subst eo29
        try go_wp2_with (first | ((with_reducible refine gate_builtin (b := .append) (xs := #[.tmp 27, .tmp 28]) rfl ?_); at_builtin; refine Kd.N_append_rows k25 (w0 := w) w.heap.size rfl (.tmp 27) (.tmp 28) 29 25 (.agg #[(.int .i64 0), (.string ⟨#[]⟩), (.slice none 0 0)]) 48 rfl Try.underlying29 info25 rfl (by decide) (by omega) u5 x5_1 t174 _ _ _ (fun k_ => (w.heap.size ≤ k_) ∧ k_ ≠ gb166 ∧ k_ ≠ gb167 ∧ k_ ≠ gb177) (fun k_ => ((fun k_ => (w.heap.size ≤ k_) ∧ k_ ≠ gb166 ∧ k_ ≠ gb167 ∧ k_ ≠ gb177)) k_ ∧ some k_ ≠ (u5 : Value).ownBlock) rfl rfl ?aO ?aR (fun _ hk => hk) ?aF ?aB ?aS ?aL ?_; (case aR => exact (by skip; exact Kd.N_F (Kd.N_mono (ok' := (fun k_ => ((fun k_ => (w.heap.size ≤ k_) ∧ k_ ≠ gb166 ∧ k_ ≠ gb167 ∧ k_ ≠ gb177)) k_ ∧ some k_ ≠ (u5 : Value).ownBlock)) ((Kd.N_far (p := ⟨gb167, 2, none⟩) (Kd.N_far (p := ⟨gb167, 1, none⟩) (Kd.N_far (p := ⟨gb167, 0, none⟩) (Kd.N_far (p := ⟨gb177, 2, none⟩) (Kd.N_far (p := ⟨gb177, 1, none⟩) (Kd.N_far (p := ⟨gb177, 0, none⟩) (Kd.N_mono (Kd.N_mono HO176.out (fun k_ hk => (⟨hk, hk.2.2.2.2⟩ : _ ∧ k_ ≠ gb177))) (fun k_ hk => (⟨hk, hk.1.2.2.2.1⟩ : _ ∧ k_ ≠ gb167))) (fun _ hk => hk.1.2) (.int .i64 t169)) (fun _ hk => hk.1.2) (.string t170)) (fun _ hk => hk.1.2) (.slice Ao21 t171.length co21)) (fun _ hk => hk.2) (.int .i64 t169)) (fun _ hk => hk.2) (.string t170)) (fun _ hk => hk.2) (.slice Ao21 t171.length co21))) (fun k_ hk => ⟨⟨hk.1.1.1, ⟨hk.1.1.2.2.1, ⟨hk.1.1.2.2.2.1, hk.1.1.2.2.2.2⟩⟩⟩, hk.1.1.2.1⟩)))); (case aB => exact (by repeat (first | (with_reducible first | exact HB.out | apply below_alloc | apply pw_below_drewN | apply below_drew1 | refine below_set ?_ GE166.out | refine below_set ?_ GE167.out | refine below_set ?_ GE177.out) | exact HB.out))); (case aF => exact (fun k_ hk => ⟨(Nat.le_trans (below_size (by repeat (first | (with_reducible first | exact HB.out | apply below_alloc | apply pw_below_drewN | apply below_drew1 | refine below_set ?_ GE166.out | refine below_set ?_ GE167.out | refine below_set ?_ GE177.out) | exact HB.out))) hk), Kd.freshB (g := gb166) (o := .cells #[.int .i64 0, .string (⟨#[]⟩ : ByteArray), .slice none 0 0] 24 (0, 0)) (by (with_reducible repeat (first | refine blk_drewN ?_ _ | refine blk_drew ?_ | refine blk_alloc ?_ _)); refine blk_far ?_ NB166_167.out _; (with_reducible repeat (first | refine blk_drewN ?_ _ | refine blk_drew ?_ | refine blk_alloc ?_ _)); refine blk_far ?_ NB166_167.out _; (with_reducible repeat (first | refine blk_drewN ?_ _ | refine blk_drew ?_ | refine blk_alloc ?_ _)); refine blk_far ?_ NB166_167.out _; (with_reducible repeat (first | refine blk_drewN ?_ _ | refine blk_drew ?_ | refine blk_alloc ?_ _)); refine blk_far ?_ NB166_177.out _; (with_reducible repeat (first | refine blk_drewN ?_ _ | refine blk_drew ?_ | refine blk_alloc ?_ _)); refine blk_far ?_ NB166_177.out _; (with_reducible repeat (first | refine blk_drewN ?_ _ | refine blk_drew ?_ | refine blk_alloc ?_ _)); refine blk_far ?_ NB166_177.out _; (with_reducible repeat (first | refine blk_drewN ?_ _ | refine blk_drew ?_ | refine blk_alloc ?_ _)); exact BK166.out) k_ hk, Kd.freshB (g := gb167) (o := .cells #[.int .i64 t169, .string t170, .slice Ao21 t171.length co21] 24 (0, 0)) (by (with_reducible repeat (first | refine blk_drewN ?_ _ | refine blk_drew ?_ | refine blk_alloc ?_ _)); refine blk_put (cs := #[.int .i64 t169, .string t170, .slice Ao14 x168002_1.length co14]) ?_ 2 _ rfl; (with_reducible repeat (first | refine blk_drewN ?_ _ | refine blk_drew ?_ | refine blk_alloc ?_ _)); refine blk_put (cs := #[.int .i64 t169, .string x168001_1, .slice Ao14 x168002_1.length co14]) ?_ 1 _ rfl; (with_reducible repeat (first | refine blk_drewN ?_ _ | refine blk_drew ?_ | refine blk_alloc ?_ _)); refine blk_put (cs := #[.int .i64 x168000_1, .string x168001_1, .slice Ao14 x168002_1.length co14]) ?_ 0 _ rfl; (with_reducible repeat (first | refine blk_drewN ?_ _ | refine blk_drew ?_ | refine blk_alloc ?_ _)); refine blk_far ?_ NB167_177.out _; (with_reducible repeat (first | refine blk_drewN ?_ _ | refine blk_drew ?_ | refine blk_alloc ?_ _)); refine blk_far ?_ NB167_177.out _; (with_reducible repeat (first | refine blk_drewN ?_ _ | refine blk_drew ?_ | refine blk_alloc ?_ _)); refine blk_far ?_ NB167_177.out _; (with_reducible repeat (first | refine blk_drewN ?_ _ | refine blk_drew ?_ | refine blk_alloc ?_ _)); exact BK167.out) k_ hk, Kd.freshB (g := gb177) (o := .cells #[.int .i64 t169, .string t170, .slice Ao21 t171.length co21] 24 (0, 0)) (by (with_reducible repeat (first | refine blk_drewN ?_ _ | refine blk_drew ?_ | refine blk_alloc ?_ _)); refine blk_far ?_ NB177_167.out _; (with_reducible repeat (first | refine blk_drewN ?_ _ | refine blk_drew ?_ | refine blk_alloc ?_ _)); refine blk_far ?_ NB177_167.out _; (with_reducible repeat (first | refine blk_drewN ?_ _ | refine blk_drew ?_ | refine blk_alloc ?_ _)); refine blk_far ?_ NB177_167.out _; (with_reducible repeat (first | refine blk_drewN ?_ _ | refine blk_drew ?_ | refine blk_alloc ?_ _)); refine blk_put (cs := #[.int .i64 t169, .string t170, .slice none 0 0]) ?_ 2 _ rfl; (with_reducible repeat (first | refine blk_drewN ?_ _ | refine blk_drew ?_ | refine blk_alloc ?_ _)); refine blk_put (cs := #[.int .i64 t169, .string (⟨#[]⟩ : ByteArray), .slice none 0 0]) ?_ 1 _ rfl; (with_reducible repeat (first | refine blk_drewN ?_ _ | refine blk_drew ?_ | refine blk_alloc ?_ _)); refine blk_put (cs := #[.int .i64 0, .string (⟨#[]⟩ : ByteArray), .slice none 0 0]) ?_ 0 _ rfl; (with_reducible repeat (first | refine blk_drewN ?_ _ | refine blk_drew ?_ | refine blk_alloc ?_ _)); exact BK177.out) k_ hk⟩)); (case aO => exact (Kd.pN (Kd.N_mono (Kd.N_far (p := ⟨gb167, 2, none⟩) (Kd.N_far (p := ⟨gb167, 1, none⟩) (Kd.N_far (p := ⟨gb167, 0, none⟩) (Kd.N_far (p := ⟨gb177, 2, none⟩) (Kd.N_far (p := ⟨gb177, 1, none⟩) (Kd.N_far (p := ⟨gb177, 0, none⟩) (Kd.N_mono (Kd.N_mono HO_5.out (fun k_ hk => (⟨hk, hk.2.2.2.2⟩ : _ ∧ k_ ≠ gb177))) (fun k_ hk => (⟨hk, hk.1.2.2.2.1⟩ : _ ∧ k_ ≠ gb167))) (fun _ hk => hk.1.2) (.int .i64 t169)) (fun _ hk => hk.1.2) (.string t170)) (fun _ hk => hk.1.2) (.slice Ao21 t171.length co21)) (fun _ hk => hk.2) (.int .i64 t169)) (fun _ hk => hk.2) (.string t170)) (fun _ hk => hk.2) (.slice Ao21 t171.length co21)) (fun _ hk => ⟨hk.1.1.1, ⟨hk.1.1.2.2.1, ⟨hk.1.1.2.2.2.1, hk.1.1.2.2.2.2⟩⟩⟩)))); (case aS => exact (below_size (by repeat (first | (with_reducible first | exact HB.out | apply below_alloc | apply pw_below_drewN | apply below_drew1 | refine below_set ?_ GE166.out | refine below_set ?_ GE167.out | refine below_set ?_ GE177.out) | exact HB.out)))); (case aL => have := LMc9.out; omega); intro v179 w28 ho hb hg hat; rw [← Ny178.out] at ho; have n0_ := Aside0.mk (Kd.V_afterv (ok := (fun k_ => (w.heap.size ≤ k_) ∧ some k_ ≠ (.slice Ao29 t174.length co29 : Value).ownBlock ∧ k_ ≠ gb166 ∧ k_ ≠ gb167 ∧ k_ ≠ gb177)) (Kd.pV (Kd.V_mono (Kd.V_far (p := ⟨gb167, 2, none⟩) (Kd.V_far (p := ⟨gb167, 1, none⟩) (Kd.V_far (p := ⟨gb167, 0, none⟩) (Kd.V_far (p := ⟨gb177, 2, none⟩) (Kd.V_far (p := ⟨gb177, 1, none⟩) (Kd.V_far (p := ⟨gb177, 0, none⟩) (Kd.V_mono (Kd.V_mono HO_168002.out (fun k_ hk => (⟨hk, hk.2.2.2.2.2⟩ : _ ∧ k_ ≠ gb177))) (fun k_ hk => (⟨hk, hk.1.2.2.2.2.1⟩ : _ ∧ k_ ≠ gb167))) (fun _ hk => hk.1.2) (.int .i64 t169)) (fun _ hk => hk.1.2) (.string t170)) (fun _ hk => hk.1.2) (.slice Ao21 t171.length co21)) (fun _ hk => hk.2) (.int .i64 t169)) (fun _ hk => hk.2) (.string t170)) (fun _ hk => hk.2) (.slice Ao21 t171.length co21)) (fun _ hk => ⟨⟨hk.1.1.1, ⟨hk.1.1.2.1, ⟨hk.1.1.2.2.2.1, ⟨hk.1.1.2.2.2.2.1, hk.1.1.2.2.2.2.2⟩⟩⟩⟩, hk.1.1.2.2.1⟩))) hg hat); have n1_ := Aside0.mk (blk_grown (g := gb166) (o := .cells #[.int .i64 0, .string (⟨#[]⟩ : ByteArray), .slice none 0 0] 24 (0, 0)) (by (with_reducible repeat (first | refine blk_drewN ?_ _ | refine blk_drew ?_ | refine blk_alloc ?_ _)); refine blk_far ?_ NB166_167.out _; (with_reducible repeat (first | refine blk_drewN ?_ _ | refine blk_drew ?_ | refine blk_alloc ?_ _)); refine blk_far ?_ NB166_167.out _; (with_reducible repeat (first | refine blk_drewN ?_ _ | refine blk_drew ?_ | refine blk_alloc ?_ _)); refine blk_far ?_ NB166_167.out _; (with_reducible repeat (first | refine blk_drewN ?_ _ | refine blk_drew ?_ | refine blk_alloc ?_ _)); refine blk_far ?_ NB166_177.out _; (with_reducible repeat (first | refine blk_drewN ?_ _ | refine blk_drew ?_ | refine blk_alloc ?_ _)); refine blk_far ?_ NB166_177.out _; (with_reducible repeat (first | refine blk_drewN ?_ _ | refine blk_drew ?_ | refine blk_alloc ?_ _)); refine blk_far ?_ NB166_177.out _; (with_reducible repeat (first | refine blk_drewN ?_ _ | refine blk_drew ?_ | refine blk_alloc ?_ _)); exact BK166.out) hg (Kd.N_ne HO_5.out BK166.out (by decide))); have n2_ := Aside0.mk (blk_grown (g := gb167) (o := .cells #[.int .i64 t169, .string t170, .slice Ao21 t171.length co21] 24 (0, 0)) (by (with_reducible repeat (first | refine blk_drewN ?_ _ | refine blk_drew ?_ | refine blk_alloc ?_ _)); refine blk_put (cs := #[.int .i64 t169, .string t170, .slice Ao14 x168002_1.length co14]) ?_ 2 _ rfl; (with_reducible repeat (first | refine blk_drewN ?_ _ | refine blk_drew ?_ | refine blk_alloc ?_ _)); refine blk_put (cs := #[.int .i64 t169, .string x168001_1, .slice Ao14 x168002_1.length co14]) ?_ 1 _ rfl; (with_reducible repeat (first | refine blk_drewN ?_ _ | refine blk_drew ?_ | refine blk_alloc ?_ _)); refine blk_put (cs := #[.int .i64 x168000_1, .string x168001_1, .slice Ao14 x168002_1.length co14]) ?_ 0 _ rfl; (with_reducible repeat (first | refine blk_drewN ?_ _ | refine blk_drew ?_ | refine blk_alloc ?_ _)); refine blk_far ?_ NB167_177.out _; (with_reducible repeat (first | refine blk_drewN ?_ _ | refine blk_drew ?_ | refine blk_alloc ?_ _)); refine blk_far ?_ NB167_177.out _; (with_reducible repeat (first | refine blk_drewN ?_ _ | refine blk_drew ?_ | refine blk_alloc ?_ _)); refine blk_far ?_ NB167_177.out _; (with_reducible repeat (first | refine blk_drewN ?_ _ | refine blk_drew ?_ | refine blk_alloc ?_ _)); exact BK167.out) hg (Kd.N_ne HO_5.out BK167.out (by decide))); have n3_ := Aside0.mk (Kd.V_afterv (ok := (fun k_ => (w.heap.size ≤ k_) ∧ some k_ ≠ (.slice Ao29 t174.length co29 : Value).ownBlock ∧ k_ ≠ gb166 ∧ k_ ≠ gb167 ∧ k_ ≠ gb177)) (Kd.pV (Kd.V_mono (Kd.V_far (p := ⟨gb167, 2, none⟩) (Kd.V_far (p := ⟨gb167, 1, none⟩) (Kd.V_far (p := ⟨gb167, 0, none⟩) (Kd.V_far (p := ⟨gb177, 2, none⟩) (Kd.V_far (p := ⟨gb177, 1, none⟩) (Kd.V_far (p := ⟨gb177, 0, none⟩) (Kd.V_mono (Kd.V_mono HO173.out (fun k_ hk => (⟨hk, hk.2.2.2.2.2⟩ : _ ∧ k_ ≠ gb177))) (fun k_ hk => (⟨hk, hk.1.2.2.2.2.1⟩ : _ ∧ k_ ≠ gb167))) (fun _ hk => hk.1.2) (.int .i64 t169)) (fun _ hk => hk.1.2) (.string t170)) (fun _ hk => hk.1.2) (.slice Ao21 t171.length co21)) (fun _ hk => hk.2) (.int .i64 t169)) (fun _ hk => hk.2) (.string t170)) (fun _ hk => hk.2) (.slice Ao21 t171.length co21)) (fun _ hk => ⟨⟨hk.1.1.1, ⟨hk.1.1.2.1, ⟨hk.1.1.2.2.2.1, ⟨hk.1.1.2.2.2.2.1, hk.1.1.2.2.2.2.2⟩⟩⟩⟩, hk.1.1.2.2.1⟩))) hg hat); have n4_ := Aside0.mk (Kd.N_afterv (ok := (fun k_ => (w.heap.size ≤ k_) ∧ k_ ≠ gb166 ∧ k_ ≠ gb167 ∧ k_ ≠ gb177)) (Kd.pN (Kd.N_mono (Kd.N_far (p := ⟨gb167, 2, none⟩) (Kd.N_far (p := ⟨gb167, 1, none⟩) (Kd.N_far (p := ⟨gb167, 0, none⟩) (Kd.N_far (p := ⟨gb177, 2, none⟩) (Kd.N_far (p := ⟨gb177, 1, none⟩) (Kd.N_far (p := ⟨gb177, 0, none⟩) (Kd.N_mono (Kd.N_mono HO176.out (fun k_ hk => (⟨hk, hk.2.2.2.2⟩ : _ ∧ k_ ≠ gb177))) (fun k_ hk => (⟨hk, hk.1.2.2.2.1⟩ : _ ∧ k_ ≠ gb167))) (fun _ hk => hk.1.2) (.int .i64 t169)) (fun _ hk => hk.1.2) (.string t170)) (fun _ hk => hk.1.2) (.slice Ao21 t171.length co21)) (fun _ hk => hk.2) (.int .i64 t169)) (fun _ hk => hk.2) (.string t170)) (fun _ hk => hk.2) (.slice Ao21 t171.length co21)) (fun _ hk => ⟨⟨hk.1.1.1, ⟨hk.1.1.2.2.1, ⟨hk.1.1.2.2.2.1, hk.1.1.2.2.2.2⟩⟩⟩, hk.1.1.2.1⟩))) hg hat); have n5_ := Aside0.mk (blk_grown (g := gb177) (o := .cells #[.int .i64 t169, .string t170, .slice Ao21 t171.length co21] 24 (0, 0)) (by (with_reducible repeat (first | refine blk_drewN ?_ _ | refine blk_drew ?_ | refine blk_alloc ?_ _)); refine blk_far ?_ NB177_167.out _; (with_reducible repeat (first | refine blk_drewN ?_ _ | refine blk_drew ?_ | refine blk_alloc ?_ _)); refine blk_far ?_ NB177_167.out _; (with_reducible repeat (first | refine blk_drewN ?_ _ | refine blk_drew ?_ | refine blk_alloc ?_ _)); refine blk_far ?_ NB177_167.out _; (with_reducible repeat (first | refine blk_drewN ?_ _ | refine blk_drew ?_ | refine blk_alloc ?_ _)); refine blk_put (cs := #[.int .i64 t169, .string t170, .slice none 0 0]) ?_ 2 _ rfl; (with_reducible repeat (first | refine blk_drewN ?_ _ | refine blk_drew ?_ | refine blk_alloc ?_ _)); refine blk_put (cs := #[.int .i64 t169, .string (⟨#[]⟩ : ByteArray), .slice none 0 0]) ?_ 1 _ rfl; (with_reducible repeat (first | refine blk_drewN ?_ _ | refine blk_drew ?_ | refine blk_alloc ?_ _)); refine blk_put (cs := #[.int .i64 0, .string (⟨#[]⟩ : ByteArray), .slice none 0 0]) ?_ 0 _ rfl; (with_reducible repeat (first | refine blk_drewN ?_ _ | refine blk_drew ?_ | refine blk_alloc ?_ _)); exact BK177.out) hg (Kd.N_ne HO_5.out BK177.out (by decide))); have n6_ := Aside0.mk (hb); have n7_ := Aside0.mk (ho); clear HO_168002; clear BK166; clear BK167; clear HO173; clear HO176; clear BK177; clear HB; clear HO_5; have HO_168002 := n0_; have BK166 := n1_; have BK167 := n2_; have HO173 := n3_; have HO176 := n4_; have BK177 := n5_; have HB := n6_; have HO180 := n7_; clear n0_ n1_ n2_ n3_ n4_ n5_ n6_ n7_; clear ho hb hg hat; have p181 : 0 ≤ (x6_1 : Int) := of_decide_eq_true (by first | (with_reducible assumption) | assumption); have q181 : x6_1 < (l0.length : Int) := of_decide_eq_true (by first | (with_reducible assumption) | assumption); obtain ⟨ad181, A181_0, c181_0, e181, hx181_0, hx181_1, hl181_0, hi181_0⟩ := at_T42 HR0.out x6_1 p181 q181; (try rw [← Nbq10.out] at hx181_1); obtain rfl : ad168 = ad181 := (by injection e181); replace hx181_0 := (HB.out.cell (World.block_lt_of_cell? w _ hx181_0)).trans hx181_0; replace hx181_1 := (HB.out.cell (World.block_lt_of_cell? w _ hx181_1)).trans hx181_1; have HR181_0 := Aside0.mk hi181_0; have HC181_0 := Aside0.mk hl181_0; clear hi181_0 hl181_0; replace p181 := eq_true p181; replace q181 := eq_true q181; have hcz30_0 : w28.cell? ⟨gb167, 0, none⟩ = some (.int .i64 t169) := (blk_cell BK167.out 0).trans rfl; have hcz30_1 : w28.cell? ⟨gb167, 1, none⟩ = some (.string t170) := (blk_cell BK167.out 1).trans rfl; have hcz30_2 : w28.cell? ⟨gb167, 2, none⟩ = some (.slice Ao21 t171.length co21) := (blk_cell BK167.out 2).trans rfl; have hfz30_0 := blk_frozen BK167.out 0; have hfz30_1 := blk_frozen BK167.out 1; have hfz30_2 := blk_frozen BK167.out 2) | ((with_reducible refine gate_callee (f := 19) rfl ?_); refine goesL_ (some 37) rfl rfl Try.func19 (by kernel_rfl) rfl #[.agg #[.int .i64 t169, .string t170, .slice Ao21 t171.length co21]] rfl (by (try simp only [List.map_toArray, List.map_cons, List.map_nil]); first | done | rfl | (simp only [List.length_drop, List.length_take]; rfl)) ?_; (with_reducible refine (cut_Flush.calls t169 t170 (fun k_ => (((w.heap.size ≤ k_) ∧ (some k_ ≠ (.slice Ao29 t174.length co29 : Value).ownBlock ∧ (k_ ≠ gb166 ∧ (k_ ≠ gb167 ∧ k_ ≠ gb177)))) ∧ some k_ ≠ (v179 : Value).ownBlock)) _ _ t171 t182 t183 t184 t187 _ ?side1 A12.out).mono ?_); (case side1 => exact HO173.out); rintro e w31 ⟨v185, v188, rfl, ho0, ho1, hb⟩; refine ⟨_, rfl, ?_⟩; have n0_ := Aside0.mk (Kd.V_below (Kd.pV HO_168002.out) hb); have n1_ := Aside0.mk (Kd.V_below (Kd.pV HO173.out) hb); have n2_ := Aside0.mk (Kd.N_below (Kd.pN HO176.out) hb); have n3_ := Aside0.mk (Kd.N_below (Kd.pN HO180.out) hb); have n4_ := Aside0.mk (Kd.V_lower (Kd.V_mono (ok' := fun k_ => (w.heap.size ≤ k_) ∧ some k_ ≠ (.slice Ao29 t174.length co29 : Value).ownBlock ∧ some k_ ≠ (v179 : Value).ownBlock ∧ k_ ≠ gb166 ∧ k_ ≠ gb167 ∧ k_ ≠ gb177) ho0 (fun k_ hk_ => ⟨Or.elim hk_ (fun hs_ => hs_.1.1) (fun hn_ => (Nat.le_trans (below_size (by repeat (first | (with_reducible first | exact HB.out | apply below_alloc | apply pw_below_drewN | apply below_drew1 | refine below_set ?_ GE166.out | refine below_set ?_ GE167.out | refine below_set ?_ GE177.out) | exact HB.out))) hn_)), Or.elim hk_ (fun hs_ => hs_.1.2.1) (fun hn_ => (Kd.fresh' (Kd.N_lt (Kd.pN HO176.out)) k_ hn_)), Or.elim hk_ (fun hs_ => hs_.2) (fun hn_ => (Kd.fresh' (Kd.N_lt (Kd.pN HO180.out)) k_ hn_)), Or.elim hk_ (fun hs_ => hs_.1.2.2.1) (fun hn_ => (Kd.freshB (g := gb166) (o := .cells #[.int .i64 0, .string (⟨#[]⟩ : ByteArray), .slice none 0 0] 24 (0, 0)) (pB BK166.out) k_ hn_)), Or.elim hk_ (fun hs_ => hs_.1.2.2.2.1) (fun hn_ => (Kd.freshB (g := gb167) (o := .cells #[.int .i64 t169, .string t170, .slice Ao21 t171.length co21] 24 (0, 0)) (pB BK167.out) k_ hn_)), Or.elim hk_ (fun hs_ => hs_.1.2.2.2.2) (fun hn_ => (Kd.freshB (g := gb177) (o := .cells #[.int .i64 t169, .string t170, .slice Ao21 t171.length co21] 24 (0, 0)) (pB BK177.out) k_ hn_))⟩)) (below_size (by repeat (first | (with_reducible first | exact HB.out | apply below_alloc | apply pw_below_drewN | apply below_drew1 | refine below_set ?_ GE166.out | refine below_set ?_ GE167.out | refine below_set ?_ GE177.out) | exact HB.out)))); have n5_ := Aside0.mk (Kd.V_lower (Kd.V_mono (ok' := fun k_ => (w.heap.size ≤ k_) ∧ some k_ ≠ (.slice Ao29 t174.length co29 : Value).ownBlock ∧ some k_ ≠ (v179 : Value).ownBlock ∧ k_ ≠ gb166 ∧ k_ ≠ gb167 ∧ k_ ≠ gb177) ho1 (fun k_ hk_ => ⟨Or.elim hk_ (fun hs_ => hs_.1.1) (fun hn_ => (Nat.le_trans (below_size (by repeat (first | (with_reducible first | exact HB.out | apply below_alloc | apply pw_below_drewN | apply below_drew1 | refine below_set ?_ GE166.out | refine below_set ?_ GE167.out | refine below_set ?_ GE177.out) | exact HB.out))) hn_)), Or.elim hk_ (fun hs_ => hs_.1.2.1) (fun hn_ => (Kd.fresh' (Kd.N_lt (Kd.pN HO176.out)) k_ hn_)), Or.elim hk_ (fun hs_ => hs_.2) (fun hn_ => (Kd.fresh' (Kd.N_lt (Kd.pN HO180.out)) k_ hn_)), Or.elim hk_ (fun hs_ => hs_.1.2.2.1) (fun hn_ => (Kd.freshB (g := gb166) (o := .cells #[.int .i64 0, .string (⟨#[]⟩ : ByteArray), .slice none 0 0] 24 (0, 0)) (pB BK166.out) k_ hn_)), Or.elim hk_ (fun hs_ => hs_.1.2.2.2.1) (fun hn_ => (Kd.freshB (g := gb167) (o := .cells #[.int .i64 t169, .string t170, .slice Ao21 t171.length co21] 24 (0, 0)) (pB BK167.out) k_ hn_)), Or.elim hk_ (fun hs_ => hs_.1.2.2.2.2) (fun hn_ => (Kd.freshB (g := gb177) (o := .cells #[.int .i64 t169, .string t170, .slice Ao21 t171.length co21] 24 (0, 0)) (pB BK177.out) k_ hn_))⟩)) (below_size (by repeat (first | (with_reducible first | exact HB.out | apply below_alloc | apply pw_below_drewN | apply below_drew1 | refine below_set ?_ GE166.out | refine below_set ?_ GE167.out | refine below_set ?_ GE177.out) | exact HB.out)))); have n6_ := Aside0.mk (blk_below (g := gb166) (o := .cells #[.int .i64 0, .string (⟨#[]⟩ : ByteArray), .slice none 0 0] 24 (0, 0)) (pB BK166.out) hb); have n7_ := Aside0.mk (blk_below (g := gb167) (o := .cells #[.int .i64 t169, .string t170, .slice Ao21 t171.length co21] 24 (0, 0)) (pB BK167.out) hb); have n8_ := Aside0.mk (blk_below (g := gb177) (o := .cells #[.int .i64 t169, .string t170, .slice Ao21 t171.length co21] 24 (0, 0)) (pB BK177.out) hb); have n9_ := Aside0.mk (below_step (by repeat (first | (with_reducible first | exact HB.out | apply below_alloc | apply pw_below_drewN | apply below_drew1 | refine below_set ?_ GE166.out | refine below_set ?_ GE167.out | refine below_set ?_ GE177.out) | exact HB.out)) hb); clear HO_168002; clear HO173; clear HO176; clear HO180; clear BK166; clear BK167; clear BK177; clear HB; have HO_168002 := n0_; have HO173 := n1_; have HO176 := n2_; have HO180 := n3_; have HO186 := n4_; have HO189 := n5_; have BK166 := n6_; have BK167 := n7_; have BK177 := n8_; have HB := n9_; clear n0_ n1_ n2_ n3_ n4_ n5_ n6_ n7_ n8_ n9_; (try clear hb); (try clear hb2); (try clear hk); (try clear hi); (try clear ho0); (try clear ho1); have hcz32_0 : w31.cell? ⟨gb177, 0, none⟩ = some (.int .i64 t169) := (blk_cell BK177.out 0).trans rfl; have hcz32_1 : w31.cell? ⟨gb177, 1, none⟩ = some (.string t170) := (blk_cell BK177.out 1).trans rfl; have hcz32_2 : w31.cell? ⟨gb177, 2, none⟩ = some (.slice Ao21 t171.length co21) := (blk_cell BK177.out 2).trans rfl; have hfz32_0 := blk_frozen BK177.out 0; have hfz32_1 := blk_frozen BK177.out 1; have hfz32_2 := blk_frozen BK177.out 2; obtain ⟨Ao33, co33, eo33⟩ := Kd.V_slice HO186.out; subst eo33; have hcz34_0 : w31.cell? ⟨gb167, 0, none⟩ = some (.int .i64 t169) := (blk_cell BK167.out 0).trans rfl; have hcz34_1 : w31.cell? ⟨gb167, 1, none⟩ = some (.string t170) := (blk_cell BK167.out 1).trans rfl; have hcz34_2 : w31.cell? ⟨gb167, 2, none⟩ = some (.slice Ao21 t171.length co21) := (blk_cell BK167.out 2).trans rfl; have hfz34_0 := blk_frozen BK167.out 0; have hfz34_1 := blk_frozen BK167.out 1; have hfz34_2 := blk_frozen BK167.out 2; obtain ⟨Ao36, co36, eo36⟩ := Kd.V_slice HO189.out; subst eo36) | ((with_reducible refine gate_builtin (b := .append) (xs := #[.tmp 41, .tmp 42]) rfl ?_); at_builtin; refine Kd.N_append_rows k25 (w0 := w) w.heap.size rfl (.tmp 41) (.tmp 42) 29 25 (.agg #[(.int .i64 0), (.string ⟨#[]⟩), (.slice none 0 0)]) 48 rfl Try.underlying29 info25 rfl (by decide) (by omega) v179 y178 t187 _ _ _ (fun k_ => (w.heap.size ≤ k_) ∧ k_ ≠ gb166 ∧ k_ ≠ gb167 ∧ k_ ≠ gb177) (fun k_ => ((fun k_ => (w.heap.size ≤ k_) ∧ k_ ≠ gb166 ∧ k_ ≠ gb167 ∧ k_ ≠ gb177)) k_ ∧ some k_ ≠ (v179 : Value).ownBlock) rfl rfl ?aO ?aR (fun _ hk => hk) ?aF ?aB ?aS ?aL ?_; (case aR => exact (by skip; exact Kd.V_F (Kd.V_mono (ok' := (fun k_ => ((fun k_ => (w.heap.size ≤ k_) ∧ k_ ≠ gb166 ∧ k_ ≠ gb167 ∧ k_ ≠ gb177)) k_ ∧ some k_ ≠ (v179 : Value).ownBlock)) ((Kd.V_far (p := ⟨gb167, 2, none⟩) (Kd.V_far (p := ⟨gb167, 1, none⟩) (Kd.V_far (p := ⟨gb167, 0, none⟩) (Kd.V_far (p := ⟨gb177, 2, none⟩) (Kd.V_far (p := ⟨gb177, 1, none⟩) (Kd.V_far (p := ⟨gb177, 0, none⟩) (Kd.V_mono (Kd.V_mono HO189.out (fun k_ hk => (⟨hk, hk.2.2.2.2.2⟩ : _ ∧ k_ ≠ gb177))) (fun k_ hk => (⟨hk, hk.1.2.2.2.2.1⟩ : _ ∧ k_ ≠ gb167))) (fun _ hk => hk.1.2) (.int .i64 t182)) (fun _ hk => hk.1.2) (.string t183)) (fun _ hk => hk.1.2) (.slice Ao33 t184.length co33)) (fun _ hk => hk.2) (.int .i64 t182)) (fun _ hk => hk.2) (.string t183)) (fun _ hk => hk.2) (.slice Ao33 t184.length co33))) (fun k_ hk => ⟨⟨hk.1.1.1, ⟨hk.1.1.2.2.2.1, ⟨hk.1.1.2.2.2.2.1, hk.1.1.2.2.2.2.2⟩⟩⟩, hk.1.1.2.2.1⟩)))); (case aB => exact (by repeat (first | (with_reducible first | exact HB.out | apply below_alloc | apply pw_below_drewN | apply below_drew1 | refine below_set ?_ GE166.out | refine below_set ?_ GE167.out | refine below_set ?_ GE177.out) | exact HB.out))); (case aF => exact (fun k_ hk => ⟨(Nat.le_trans (below_size (by repeat (first | (with_reducible first | exact HB.out | apply below_alloc | apply pw_below_drewN | apply below_drew1 | refine below_set ?_ GE166.out | refine below_set ?_ GE167.out | refine below_set ?_ GE177.out) | exact HB.out))) hk), Kd.freshB (g := gb166) (o := .cells #[.int .i64 0, .string (⟨#[]⟩ : ByteArray), .slice none 0 0] 24 (0, 0)) (by (with_reducible repeat (first | refine blk_drewN ?_ _ | refine blk_drew ?_ | refine blk_alloc ?_ _)); refine blk_far ?_ NB166_167.out _; (with_reducible repeat (first | refine blk_drewN ?_ _ | refine blk_drew ?_ | refine blk_alloc ?_ _)); refine blk_far ?_ NB166_167.out _; (with_reducible repeat (first | refine blk_drewN ?_ _ | refine blk_drew ?_ | refine blk_alloc ?_ _)); refine blk_far ?_ NB166_167.out _; (with_reducible repeat (first | refine blk_drewN ?_ _ | refine blk_drew ?_ | refine blk_alloc ?_ _)); refine blk_far ?_ NB166_177.out _; (with_reducible repeat (first | refine blk_drewN ?_ _ | refine blk_drew ?_ | refine blk_alloc ?_ _)); refine blk_far ?_ NB166_177.out _; (with_reducible repeat (first | refine blk_drewN ?_ _ | refine blk_drew ?_ | refine blk_alloc ?_ _)); refine blk_far ?_ NB166_177.out _; (with_reducible repeat (first | refine blk_drewN ?_ _ | refine blk_drew ?_ | refine blk_alloc ?_ _)); exact BK166.out) k_ hk, Kd.freshB (g := gb167) (o := .cells #[.int .i64 t182, .string t183, .slice Ao33 t184.length co33] 24 (0, 0)) (by (with_reducible repeat (first | refine blk_drewN ?_ _ | refine blk_drew ?_ | refine blk_alloc ?_ _)); refine blk_put (cs := #[.int .i64 t182, .string t183, .slice Ao21 t171.length co21]) ?_ 2 _ rfl; (with_reducible repeat (first | refine blk_drewN ?_ _ | refine blk_drew ?_ | refine blk_alloc ?_ _)); refine blk_put (cs := #[.int .i64 t182, .string t170, .slice Ao21 t171.length co21]) ?_ 1 _ rfl; (with_reducible repeat (first | refine blk_drewN ?_ _ | refine blk_drew ?_ | refine blk_alloc ?_ _)); refine blk_put (cs := #[.int .i64 t169, .string t170, .slice Ao21 t171.length co21]) ?_ 0 _ rfl; (with_reducible repeat (first | refine blk_drewN ?_ _ | refine blk_drew ?_ | refine blk_alloc ?_ _)); refine blk_far ?_ NB167_177.out _; (with_reducible repeat (first | refine blk_drewN ?_ _ | refine blk_drew ?_ | refine blk_alloc ?_ _)); refine blk_far ?_ NB167_177.out _; (with_reducible repeat (first | refine blk_drewN ?_ _ | refine blk_drew ?_ | refine blk_alloc ?_ _)); refine blk_far ?_ NB167_177.out _; (with_reducible repeat (first | refine blk_drewN ?_ _ | refine blk_drew ?_ | refine blk_alloc ?_ _)); exact BK167.out) k_ hk, Kd.freshB (g := gb177) (o := .cells #[.int .i64 t182, .string t183, .slice Ao33 t184.length co33] 24 (0, 0)) (by (with_reducible repeat (first | refine blk_drewN ?_ _ | refine blk_drew ?_ | refine blk_alloc ?_ _)); refine blk_far ?_ NB177_167.out _; (with_reducible repeat (first | refine blk_drewN ?_ _ | refine blk_drew ?_ | refine blk_alloc ?_ _)); refine blk_far ?_ NB177_167.out _; (with_reducible repeat (first | refine blk_drewN ?_ _ | refine blk_drew ?_ | refine blk_alloc ?_ _)); refine blk_far ?_ NB177_167.out _; (with_reducible repeat (first | refine blk_drewN ?_ _ | refine blk_drew ?_ | refine blk_alloc ?_ _)); refine blk_put (cs := #[.int .i64 t182, .string t183, .slice Ao21 t171.length co21]) ?_ 2 _ rfl; (with_reducible repeat (first | refine blk_drewN ?_ _ | refine blk_drew ?_ | refine blk_alloc ?_ _)); refine blk_put (cs := #[.int .i64 t182, .string t170, .slice Ao21 t171.length co21]) ?_ 1 _ rfl; (with_reducible repeat (first | refine blk_drewN ?_ _ | refine blk_drew ?_ | refine blk_alloc ?_ _)); refine blk_put (cs := #[.int .i64 t169, .string t170, .slice Ao21 t171.length co21]) ?_ 0 _ rfl; (with_reducible repeat (first | refine blk_drewN ?_ _ | refine blk_drew ?_ | refine blk_alloc ?_ _)); exact BK177.out) k_ hk⟩)); (case aO => exact (Kd.pN (Kd.N_mono (Kd.N_far (p := ⟨gb167, 2, none⟩) (Kd.N_far (p := ⟨gb167, 1, none⟩) (Kd.N_far (p := ⟨gb167, 0, none⟩) (Kd.N_far (p := ⟨gb177, 2, none⟩) (Kd.N_far (p := ⟨gb177, 1, none⟩) (Kd.N_far (p := ⟨gb177, 0, none⟩) (Kd.N_mono (Kd.N_mono HO180.out (fun k_ hk => (⟨hk, hk.2.2.2⟩ : _ ∧ k_ ≠ gb177))) (fun k_ hk => (⟨hk, hk.1.2.2.1⟩ : _ ∧ k_ ≠ gb167))) (fun _ hk => hk.1.2) (.int .i64 t182)) (fun _ hk => hk.1.2) (.string t183)) (fun _ hk => hk.1.2) (.slice Ao33 t184.length co33)) (fun _ hk => hk.2) (.int .i64 t182)) (fun _ hk => hk.2) (.string t183)) (fun _ hk => hk.2) (.slice Ao33 t184.length co33)) (fun _ hk => ⟨hk.1.1.1, ⟨hk.1.1.2.1, ⟨hk.1.1.2.2.1, hk.1.1.2.2.2⟩⟩⟩)))); (case aS => exact (below_size (by repeat (first | (with_reducible first | exact HB.out | apply below_alloc | apply pw_below_drewN | apply below_drew1 | refine below_set ?_ GE166.out | refine below_set ?_ GE167.out | refine below_set ?_ GE177.out) | exact HB.out)))); (case aL => have := LMc13.out; omega); intro v191 w35 ho hb hg hat; rw [← Ny190.out] at ho; have n0_ := Aside0.mk (Kd.V_afterv (ok := (fun k_ => (w.heap.size ≤ k_) ∧ some k_ ≠ (.slice Ao29 t174.length co29 : Value).ownBlock ∧ k_ ≠ gb166 ∧ k_ ≠ gb167 ∧ k_ ≠ gb177)) (Kd.pV (Kd.V_mono (Kd.V_far (p := ⟨gb167, 2, none⟩) (Kd.V_far (p := ⟨gb167, 1, none⟩) (Kd.V_far (p := ⟨gb167, 0, none⟩) (Kd.V_far (p := ⟨gb177, 2, none⟩) (Kd.V_far (p := ⟨gb177, 1, none⟩) (Kd.V_far (p := ⟨gb177, 0, none⟩) (Kd.V_mono (Kd.V_mono HO_168002.out (fun k_ hk => (⟨hk, hk.1.2.2.2.2⟩ : _ ∧ k_ ≠ gb177))) (fun k_ hk => (⟨hk, hk.1.1.2.2.2.1⟩ : _ ∧ k_ ≠ gb167))) (fun _ hk => hk.1.2) (.int .i64 t182)) (fun _ hk => hk.1.2) (.string t183)) (fun _ hk => hk.1.2) (.slice Ao33 t184.length co33)) (fun _ hk => hk.2) (.int .i64 t182)) (fun _ hk => hk.2) (.string t183)) (fun _ hk => hk.2) (.slice Ao33 t184.length co33)) (fun _ hk => ⟨⟨hk.1.1.1.1, ⟨hk.1.1.1.2.1, ⟨hk.1.1.1.2.2.1, ⟨hk.1.1.1.2.2.2.1, hk.1.1.1.2.2.2.2⟩⟩⟩⟩, hk.1.1.2⟩))) hg hat); have n1_ := Aside0.mk (blk_grown (g := gb166) (o := .cells #[.int .i64 0, .string (⟨#[]⟩ : ByteArray), .slice none 0 0] 24 (0, 0)) (by (with_reducible repeat (first | refine blk_drewN ?_ _ | refine blk_drew ?_ | refine blk_alloc ?_ _)); refine blk_far ?_ NB166_167.out _; (with_reducible repeat (first | refine blk_drewN ?_ _ | refine blk_drew ?_ | refine blk_alloc ?_ _)); refine blk_far ?_ NB166_167.out _; (with_reducible repeat (first | refine blk_drewN ?_ _ | refine blk_drew ?_ | refine blk_alloc ?_ _)); refine blk_far ?_ NB166_167.out _; (with_reducible repeat (first | refine blk_drewN ?_ _ | refine blk_drew ?_ | refine blk_alloc ?_ _)); refine blk_far ?_ NB166_177.out _; (with_reducible repeat (first | refine blk_drewN ?_ _ | refine blk_drew ?_ | refine blk_alloc ?_ _)); refine blk_far ?_ NB166_177.out _; (with_reducible repeat (first | refine blk_drewN ?_ _ | refine blk_drew ?_ | refine blk_alloc ?_ _)); refine blk_far ?_ NB166_177.out _; (with_reducible repeat (first | refine blk_drewN ?_ _ | refine blk_drew ?_ | refine blk_alloc ?_ _)); exact BK166.out) hg (Kd.N_ne HO180.out BK166.out (by decide))); have n2_ := Aside0.mk (blk_grown (g := gb167) (o := .cells #[.int .i64 t182, .string t183, .slice Ao33 t184.length co33] 24 (0, 0)) (by (with_reducible repeat (first | refine blk_drewN ?_ _ | refine blk_drew ?_ | refine blk_alloc ?_ _)); refine blk_put (cs := #[.int .i64 t182, .string t183, .slice Ao21 t171.length co21]) ?_ 2 _ rfl; (with_reducible repeat (first | refine blk_drewN ?_ _ | refine blk_drew ?_ | refine blk_alloc ?_ _)); refine blk_put (cs := #[.int .i64 t182, .string t170, .slice Ao21 t171.length co21]) ?_ 1 _ rfl; (with_reducible repeat (first | refine blk_drewN ?_ _ | refine blk_drew ?_ | refine blk_alloc ?_ _)); refine blk_put (cs := #[.int .i64 t169, .string t170, .slice Ao21 t171.length co21]) ?_ 0 _ rfl; (with_reducible repeat (first | refine blk_drewN ?_ _ | refine blk_drew ?_ | refine blk_alloc ?_ _)); refine blk_far ?_ NB167_177.out _; (with_reducible repeat (first | refine blk_drewN ?_ _ | refine blk_drew ?_ | refine blk_alloc ?_ _)); refine blk_far ?_ NB167_177.out _; (with_reducible repeat (first | refine blk_drewN ?_ _ | refine blk_drew ?_ | refine blk_alloc ?_ _)); refine blk_far ?_ NB167_177.out _; (with_reducible repeat (first | refine blk_drewN ?_ _ | refine blk_drew ?_ | refine blk_alloc ?_ _)); exact BK167.out) hg (Kd.N_ne HO180.out BK167.out (by decide))); have n3_ := Aside0.mk (Kd.V_afterv (ok := (fun k_ => (w.heap.size ≤ k_) ∧ some k_ ≠ (.slice Ao29 t174.length co29 : Value).ownBlock ∧ k_ ≠ gb166 ∧ k_ ≠ gb167 ∧ k_ ≠ gb177)) (Kd.pV (Kd.V_mono (Kd.V_far (p := ⟨gb167, 2, none⟩) (Kd.V_far (p := ⟨gb167, 1, none⟩) (Kd.V_far (p := ⟨gb167, 0, none⟩) (Kd.V_far (p := ⟨gb177, 2, none⟩) (Kd.V_far (p := ⟨gb177, 1, none⟩) (Kd.V_far (p := ⟨gb177, 0, none⟩) (Kd.V_mono (Kd.V_mono HO173.out (fun k_ hk => (⟨hk, hk.1.2.2.2.2⟩ : _ ∧ k_ ≠ gb177))) (fun k_ hk => (⟨hk, hk.1.1.2.2.2.1⟩ : _ ∧ k_ ≠ gb167))) (fun _ hk => hk.1.2) (.int .i64 t182)) (fun _ hk => hk.1.2) (.string t183)) (fun _ hk => hk.1.2) (.slice Ao33 t184.length co33)) (fun _ hk => hk.2) (.int .i64 t182)) (fun _ hk => hk.2) (.string t183)) (fun _ hk => hk.2) (.slice Ao33 t184.length co33)) (fun _ hk => ⟨⟨hk.1.1.1.1, ⟨hk.1.1.1.2.1, ⟨hk.1.1.1.2.2.1, ⟨hk.1.1.1.2.2.2.1, hk.1.1.1.2.2.2.2⟩⟩⟩⟩, hk.1.1.2⟩))) hg hat); have n4_ := Aside0.mk (Kd.N_afterv (ok := (fun k_ => (w.heap.size ≤ k_) ∧ k_ ≠ gb166 ∧ k_ ≠ gb167 ∧ k_ ≠ gb177)) (Kd.pN (Kd.N_mono (Kd.N_far (p := ⟨gb167, 2, none⟩) (Kd.N_far (p := ⟨gb167, 1, none⟩) (Kd.N_far (p := ⟨gb167, 0, none⟩) (Kd.N_far (p := ⟨gb177, 2, none⟩) (Kd.N_far (p := ⟨gb177, 1, none⟩) (Kd.N_far (p := ⟨gb177, 0, none⟩) (Kd.N_mono (Kd.N_mono HO176.out (fun k_ hk => (⟨hk, hk.1.2.2.2⟩ : _ ∧ k_ ≠ gb177))) (fun k_ hk => (⟨hk, hk.1.1.2.2.1⟩ : _ ∧ k_ ≠ gb167))) (fun _ hk => hk.1.2) (.int .i64 t182)) (fun _ hk => hk.1.2) (.string t183)) (fun _ hk => hk.1.2) (.slice Ao33 t184.length co33)) (fun _ hk => hk.2) (.int .i64 t182)) (fun _ hk => hk.2) (.string t183)) (fun _ hk => hk.2) (.slice Ao33 t184.length co33)) (fun _ hk => ⟨⟨hk.1.1.1.1, ⟨hk.1.1.1.2.1, ⟨hk.1.1.1.2.2.1, hk.1.1.1.2.2.2⟩⟩⟩, hk.1.1.2⟩))) hg hat); have n5_ := Aside0.mk (blk_grown (g := gb177) (o := .cells #[.int .i64 t182, .string t183, .slice Ao33 t184.length co33] 24 (0, 0)) (by (with_reducible repeat (first | refine blk_drewN ?_ _ | refine blk_drew ?_ | refine blk_alloc ?_ _)); refine blk_far ?_ NB177_167.out _; (with_reducible repeat (first | refine blk_drewN ?_ _ | refine blk_drew ?_ | refine blk_alloc ?_ _)); refine blk_far ?_ NB177_167.out _; (with_reducible repeat (first | refine blk_drewN ?_ _ | refine blk_drew ?_ | refine blk_alloc ?_ _)); refine blk_far ?_ NB177_167.out _; (with_reducible repeat (first | refine blk_drewN ?_ _ | refine blk_drew ?_ | refine blk_alloc ?_ _)); refine blk_put (cs := #[.int .i64 t182, .string t183, .slice Ao21 t171.length co21]) ?_ 2 _ rfl; (with_reducible repeat (first | refine blk_drewN ?_ _ | refine blk_drew ?_ | refine blk_alloc ?_ _)); refine blk_put (cs := #[.int .i64 t182, .string t170, .slice Ao21 t171.length co21]) ?_ 1 _ rfl; (with_reducible repeat (first | refine blk_drewN ?_ _ | refine blk_drew ?_ | refine blk_alloc ?_ _)); refine blk_put (cs := #[.int .i64 t169, .string t170, .slice Ao21 t171.length co21]) ?_ 0 _ rfl; (with_reducible repeat (first | refine blk_drewN ?_ _ | refine blk_drew ?_ | refine blk_alloc ?_ _)); exact BK177.out) hg (Kd.N_ne HO180.out BK177.out (by decide))); have n6_ := Aside0.mk (Kd.V_afterv (ok := (fun k_ => (w.heap.size ≤ k_) ∧ some k_ ≠ (.slice Ao29 t174.length co29 : Value).ownBlock ∧ k_ ≠ gb166 ∧ k_ ≠ gb167 ∧ k_ ≠ gb177)) (Kd.pV (Kd.V_mono (Kd.V_far (p := ⟨gb167, 2, none⟩) (Kd.V_far (p := ⟨gb167, 1, none⟩) (Kd.V_far (p := ⟨gb167, 0, none⟩) (Kd.V_far (p := ⟨gb177, 2, none⟩) (Kd.V_far (p := ⟨gb177, 1, none⟩) (Kd.V_far (p := ⟨gb177, 0, none⟩) (Kd.V_mono (Kd.V_mono HO186.out (fun k_ hk => (⟨hk, hk.2.2.2.2.2⟩ : _ ∧ k_ ≠ gb177))) (fun k_ hk => (⟨hk, hk.1.2.2.2.2.1⟩ : _ ∧ k_ ≠ gb167))) (fun _ hk => hk.1.2) (.int .i64 t182)) (fun _ hk => hk.1.2) (.string t183)) (fun _ hk => hk.1.2) (.slice Ao33 t184.length co33)) (fun _ hk => hk.2) (.int .i64 t182)) (fun _ hk => hk.2) (.string t183)) (fun _ hk => hk.2) (.slice Ao33 t184.length co33)) (fun _ hk => ⟨⟨hk.1.1.1, ⟨hk.1.1.2.1, ⟨hk.1.1.2.2.2.1, ⟨hk.1.1.2.2.2.2.1, hk.1.1.2.2.2.2.2⟩⟩⟩⟩, hk.1.1.2.2.1⟩))) hg hat); have n7_ := Aside0.mk (Kd.V_afterv (ok := (fun k_ => (w.heap.size ≤ k_) ∧ some k_ ≠ (.slice Ao29 t174.length co29 : Value).ownBlock ∧ k_ ≠ gb166 ∧ k_ ≠ gb167 ∧ k_ ≠ gb177)) (Kd.pV (Kd.V_mono (Kd.V_far (p := ⟨gb167, 2, none⟩) (Kd.V_far (p := ⟨gb167, 1, none⟩) (Kd.V_far (p := ⟨gb167, 0, none⟩) (Kd.V_far (p := ⟨gb177, 2, none⟩) (Kd.V_far (p := ⟨gb177, 1, none⟩) (Kd.V_far (p := ⟨gb177, 0, none⟩) (Kd.V_mono (Kd.V_mono HO189.out (fun k_ hk => (⟨hk, hk.2.2.2.2.2⟩ : _ ∧ k_ ≠ gb177))) (fun k_ hk => (⟨hk, hk.1.2.2.2.2.1⟩ : _ ∧ k_ ≠ gb167))) (fun _ hk => hk.1.2) (.int .i64 t182)) (fun _ hk => hk.1.2) (.string t183)) (fun _ hk => hk.1.2) (.slice Ao33 t184.length co33)) (fun _ hk => hk.2) (.int .i64 t182)) (fun _ hk => hk.2) (.string t183)) (fun _ hk => hk.2) (.slice Ao33 t184.length co33)) (fun _ hk => ⟨⟨hk.1.1.1, ⟨hk.1.1.2.1, ⟨hk.1.1.2.2.2.1, ⟨hk.1.1.2.2.2.2.1, hk.1.1.2.2.2.2.2⟩⟩⟩⟩, hk.1.1.2.2.1⟩))) hg hat); have n8_ := Aside0.mk (hb); have n9_ := Aside0.mk (ho); clear HO_168002; clear BK166; clear BK167; clear HO173; clear HO176; clear BK177; clear HO186; clear HO189; clear HB; clear HO180; have HO_168002 := n0_; have BK166 := n1_; have BK167 := n2_; have HO173 := n3_; have HO176 := n4_; have BK177 := n5_; have HO186 := n6_; have HO189 := n7_; have HB := n8_; have HO192 := n9_; clear n0_ n1_ n2_ n3_ n4_ n5_ n6_ n7_ n8_ n9_; clear ho hb hg hat))
        go_roundg k1
        case measure => have := HK1.out; omega
        case rel => exact ⟨(y190), (wrap64 (x6_1 + 1)), (t182), (t183), (t184), (.slice Ao33 t184.length co33), (by first | rfl | (simp; done) | (simp [*]; done)), H', ⟨by have := HK1.out; omega⟩, ⟨by (with_reducible repeat (first | apply Kd.N_alloc | apply Kd.N_drewN | apply Kd.N_drew)); exact Kd.N_mono HO192.out (fun _ hk => ⟨hk.1, ⟨hk.2.1, hk.2.2.1⟩⟩)⟩, ⟨by (with_reducible repeat (first | apply Kd.V_alloc | apply Kd.V_drewN | apply Kd.V_drew)); exact Kd.V_mono HO186.out (fun _ hk => ⟨hk.1.1, ⟨hk.2, ⟨hk.1.2.2.1, hk.1.2.2.2.1⟩⟩⟩)⟩, ⟨by (with_reducible repeat (first | refine blk_drewN ?_ _ | refine blk_drew ?_ | refine blk_alloc ?_ _)); exact BK166.out⟩, ⟨by (with_reducible repeat (first | refine blk_drewN ?_ _ | refine blk_drew ?_ | refine blk_alloc ?_ _)); exact BK167.out⟩, ⟨by repeat (first | (with_reducible first | exact HB.out | apply below_alloc | apply pw_below_drewN | apply below_drew1 | refine below_set ?_ GE166.out | refine below_set ?_ GE167.out | refine below_set ?_ GE177.out) | exact HB.out)⟩⟩
       ·
        rw [if_neg c13] at H
        exact absurd H (by simp)
      ·
       replace c11 := Bool.eq_false_iff.mpr c11
       subst c11
       have H1 : (selvedgelaw15_runs.l0 k1 l0 y178 (wrap64 (x6_1 + 1)) t169 t170 t171) = some (r1, r2, r3, r4) := by rw [if_neg (show ¬ (false = true) by decide)] at H; exact H
       clear H
       have H := H1
       clear H1
       have H' := Aside0.mk H
       clear H
       obtain ⟨Ao37, co37, eo37⟩ := Kd.V_slice HO_168002.out
       subst eo37
       try go_wp2
       have n0_ := Aside0.mk (Kd.N_drew HO_5.out)
       have n1_ := Aside0.mk (Kd.V_drew HO_168002.out)
       have n2_ := Aside0.mk (blk_drew BK166.out)
       have n3_ := Aside0.mk (blk_drew BK167.out)
       have n4_ := Aside0.mk (below_drew1 HB.out)
       clear HO_5
       clear HO_168002
       clear BK166
       clear BK167
       clear HB
       have HO_5 := n0_
       have HO_168002 := n1_
       have BK166 := n2_
       have BK167 := n3_
       have HB := n4_
       clear n0_ n1_ n2_ n3_ n4_
       have p168 : 0 ≤ (x6_1 : Int) := of_decide_eq_true (by first | (with_reducible assumption) | assumption)
       have q168 : x6_1 < (l0.length : Int) := of_decide_eq_true (by first | (with_reducible assumption) | assumption)
       obtain ⟨ad168, A168_0, c168_0, e168, hx168_0, hx168_1, hl168_0, hi168_0⟩ := at_T42 HR0.out x6_1 p168 q168
       have hw168_1 := hx168_1
       have hw168_0 := hx168_0
       (try rw [← Nbq10.out] at hx168_1)
       cases e168
       replace hx168_0 := (HB.out.cell (World.block_lt_of_cell? w _ hx168_0)).trans hx168_0
       replace hx168_1 := (HB.out.cell (World.block_lt_of_cell? w _ hx168_1)).trans hx168_1
       have HR168_0 := Aside0.mk hi168_0
       have HC168_0 := Aside0.mk hl168_0
       clear hi168_0 hl168_0
       replace p168 := eq_true p168
       replace q168 := eq_true q168
       refine start_ (n := 13) (S := fun w' => w'.cell? ⟨gb167, 0, none⟩ = some (.int .i64 x168000_1) ∧ w'.cell? ⟨gb167, 1, none⟩ = some (.string x168001_1) ∧ w'.cell? ⟨gb167, 2, none⟩ = some (.slice Ao37 x168002_1.length co37) ∧ w'.cell? (ad168.add ((x6_1).toNat * 2)) = some (.slice A168_0 ((rd_T42 l0 x6_1).f0).length c168_0) ∧ w'.cell? ⟨(ad168.add ((x6_1).toNat * 2)).block, (ad168.add ((x6_1).toNat * 2)).off + 1, none⟩ = some (.bool false)) (ds := []) #[false, false, false, false, false, false, false, false, false, false, false, false, false] (by kernel_rfl) rfl rfl ⟨(blk_cell BK167.out 0).trans rfl, (blk_cell BK167.out 1).trans rfl, (blk_cell BK167.out 2).trans rfl, ((HB.out.cell (World.block_lt_of_cell? w _ hw168_0)).trans (by first | exact hw168_0 | (rw [hw168_0, ← Nbq10.out]))), ((HB.out.cell (World.block_lt_of_cell? w _ hw168_1)).trans (by first | exact hw168_1 | (rw [hw168_1, ← Nbq10.out])))⟩ (fun hHeld => ?_); refine with_tabW selvedgelaw15_runs.tab6 selvedgelaw15_runs.bits6 (fun HT_ HW_ => ?_)
       generalize wr.drew = w38 at HO_5 HO_168002 BK166 BK167 HB HR168_0 hx168_0 hx168_1 hHeld ⊢
       refine pure_ (i := 1) (N := some 18) (v := ?_) (a' := ?_) #[false, true, false, false, false, false, false, false, false, false, false, false, false] rfl rfl (any_of HT_.out (by kernel_rfl)) (fun _ _ _ h => h) (Or.inl ⟨by rfl, ?_⟩) ?_ ?_
       rotate_left
       ·
        intro w'
        go_simp
        with_reducible rfl
       rotate_left
       ·
        simp only [Act.put, List.setIfInBounds_toArray, List.set_cons_zero, List.set_cons_succ, i64_w, i32_w]
        rfl
       refine pure_ (i := 2) (N := some 19) (v := ?_) (a' := ?_) #[false, true, true, false, false, false, false, false, false, false, false, false, false] rfl rfl (any_of HT_.out (by kernel_rfl)) (fun _ _ _ h => h) (Or.inl ⟨by rfl, ?_⟩) ?_ ?_
       rotate_left
       ·
        intro w'
        go_simp
        with_reducible rfl
       rotate_left
       ·
        simp only [Act.put, List.setIfInBounds_toArray, List.set_cons_zero, List.set_cons_succ, i64_w, i32_w]
        rfl
       refine pure_ (i := 3) (N := some 20) (v := ?_) (a' := ?_) #[false, true, true, true, false, false, false, false, false, false, false, false, false] rfl rfl (any_of HT_.out (by kernel_rfl)) (fun _ _ _ h => h) (Or.inl ⟨by rfl, ?_⟩) ?_ ?_
       rotate_left
       ·
        intro w'
        go_simp
        with_reducible rfl
       rotate_left
       ·
        simp only [Act.put, List.setIfInBounds_toArray, List.set_cons_zero, List.set_cons_succ, i64_w, i32_w]
        rfl
       refine pure_ (i := 4) (N := some 21) (v := ?_) (a' := ?_) #[false, true, true, true, true, false, false, false, false, false, false, false, false] rfl rfl (any_of HT_.out (by kernel_rfl)) (fun _ _ _ h => h) (Or.inl ⟨by rfl, ?_⟩) ?_ ?_
       rotate_left
       ·
        intro w'
        go_simp
        with_reducible rfl
       rotate_left
       ·
        simp only [Act.put, List.setIfInBounds_toArray, List.set_cons_zero, List.set_cons_succ, i64_w, i32_w]
        rfl
       refine take_ (i := 0) (N := some 17) (v := ?_) (a' := ?_) #[true, true, true, true, true, false, false, false, false, false, false, false, false] rfl rfl (take_ofW HT_.out HW_.out (by kernel_rfl)) (fun _ _ _ h => h) (Or.inl ⟨by rfl, ?_⟩) hHeld ?_ ?_
       rotate_left
       ·
        rintro w' ⟨s0, s1, s2, s3, s4⟩
        go_simp
        with_reducible rfl
       rotate_left
       ·
        simp only [Act.put, List.setIfInBounds_toArray, List.set_cons_zero, List.set_cons_succ, i64_w, i32_w]
        rfl
       refine take_ (i := 5) (N := some 22) (v := ?_) (a' := ?_) #[true, true, true, true, true, true, false, false, false, false, false, false, false] rfl rfl (take_ofW HT_.out HW_.out (by kernel_rfl)) (fun _ _ _ h => h) (Or.inl ⟨by rfl, ?_⟩) hHeld ?_ ?_
       rotate_left
       ·
        rintro w' ⟨s0, s1, s2, s3, s4⟩
        go_simp
        with_reducible rfl
       rotate_left
       ·
        simp only [Act.put, List.setIfInBounds_toArray, List.set_cons_zero, List.set_cons_succ, i64_w, i32_w]
        rfl
       refine join_ (σ := Value × Value × Nat) 2 #[true, true, true, true, true, true, true, true, true, true, true, false, false] (fun s_ => [(23, .tuple #[.agg #[.int .i64 t169, .string t170, s_.1], s_.2.1]), (7, .pointer (some ⟨s_.2.2, 0, none⟩)), (16, .tuple #[.agg #[.int .i64 t169, .string t170, s_.1], s_.2.1]), (24, .agg #[.int .i64 t169, .string t170, s_.1]), (25, s_.2.1)]) (fun s_ w' => (w'.cell? ⟨gb167, 0, none⟩ = some (.int .i64 x168000_1) ∧ w'.cell? ⟨gb167, 1, none⟩ = some (.string x168001_1) ∧ w'.cell? ⟨gb167, 2, none⟩ = some (.slice Ao37 x168002_1.length co37) ∧ w'.cell? (ad168.add ((x6_1).toNat * 2)) = some (.slice A168_0 ((rd_T42 l0 x6_1).f0).length c168_0) ∧ w'.cell? ⟨(ad168.add ((x6_1).toNat * 2)).block, (ad168.add ((x6_1).toNat * 2)).off + 1, none⟩ = some (.bool false)) ∧ (Kd.V Kd.string 9 w' w.heap.size (fun k_ => (w.heap.size ≤ k_) ∧ some k_ ≠ (s_.2.1 : Value).ownBlock ∧ some k_ ≠ (u5 : Value).ownBlock ∧ k_ ≠ gb166 ∧ k_ ≠ gb167 ∧ k_ ≠ s_.2.2) s_.1 t171) ∧ (Kd.N k25 25 w' w.heap.size (fun k_ => (w.heap.size ≤ k_) ∧ some k_ ≠ (u5 : Value).ownBlock ∧ k_ ≠ gb166 ∧ k_ ≠ gb167 ∧ k_ ≠ s_.2.2) s_.2.1 t174) ∧ (Kd.V Kd.string 9 w' w.heap.size (fun k_ => (w.heap.size ≤ k_) ∧ some k_ ≠ (s_.2.1 : Value).ownBlock ∧ some k_ ≠ (u5 : Value).ownBlock ∧ k_ ≠ gb166 ∧ k_ ≠ gb167 ∧ k_ ≠ s_.2.2) (.slice Ao37 x168002_1.length co37) x168002_1) ∧ (Kd.N k25 25 w' w.heap.size (fun k_ => (w.heap.size ≤ k_) ∧ some k_ ≠ (s_.2.1 : Value).ownBlock ∧ k_ ≠ gb166 ∧ k_ ≠ gb167 ∧ k_ ≠ s_.2.2) u5 x5_1) ∧ (w'.heap[gb166]? = some (.cells #[.int .i64 0, .string (⟨#[]⟩ : ByteArray), .slice none 0 0] 24 (0, 0))) ∧ (w'.heap[gb167]? = some (.cells #[.int .i64 x168000_1, .string x168001_1, .slice Ao37 x168002_1.length co37] 24 (0, 0))) ∧ (w'.heap[s_.2.2]? = some (.cells #[.int .i64 0, .string (⟨#[]⟩ : ByteArray), .slice none 0 0] 24 (0, 0))) ∧ (w.heap.size ≤ s_.2.2) ∧ (w.heap.size ≤ s_.2.2) ∧ (gb166 ≠ s_.2.2) ∧ (s_.2.2 ≠ gb166) ∧ (gb167 ≠ s_.2.2) ∧ (s_.2.2 ≠ gb167) ∧ (Below w.heap.size w w')) ?_ ?_
       rotate_left
       ·
        intro hCont
        refine two_ (i := 6) (j := 10) (Ni := some 23) (Nj := some 7) #[true, true, true, true, true, true, true, false, false, false, false, false, false] #[true, true, true, true, true, true, false, false, false, false, true, false, false] rfl rfl rfl rfl (two_of HT_.out (by kernel_rfl)) (by decide) (by decide) (fun K hK => ?_) (fun K hK => ?_)
        ·
         skip
         refine goes_ Try.func17 (by kernel_rfl) rfl #[.agg #[.int .i64 x168000_1, .string x168001_1, .slice Ao37 x168002_1.length co37], .slice A168_0 ((rd_T42 l0 x6_1).f0).length c168_0] (by rfl) rfl rfl (by (try simp only [List.map_toArray, List.map_cons, List.map_nil]); first | done | rfl | (simp only [List.length_drop, List.length_take]; rfl)) ?_
         with_reducible refine (cut_Feed.calls k1 x168000_1 x168001_1 (fun k_ => ((w.heap.size ≤ k_) ∧ (some k_ ≠ (u5 : Value).ownBlock ∧ (k_ ≠ gb166 ∧ k_ ≠ gb167)))) _ _ x168002_1 _ _ ((rd_T42 l0 x6_1).f0) t169 t170 t171 t174 _ ?side1 ?side2 ?side3 A8.out).mono ?_
         (case side1 => exact HO_168002.out)
         (case side2 => repeat (first | exact (Kd.C_below HR168_0.out HB.out) | (with_reducible refine Kd.C_alloc ?_ _) | (with_reducible refine Kd.C_drewN ?_ _) | (with_reducible refine Kd.C_drew ?_)))
         (case side3 => exact HC168_0.out)
         rintro e w39 ⟨v172, v175, rfl, ho0, ho1, hb⟩
         refine ⟨_, rfl, ?_⟩
         have n0_ := Aside0.mk (Kd.N_elder' (Kd.pN HO_5.out) (Kd.N_base ho1) hb)
         have n1_ := Aside0.mk (Kd.V_elder' (Kd.pV HO_168002.out) (Kd.N_base ho1) hb)
         have n2_ := Aside0.mk (Kd.V_lower (Kd.V_mono (ok' := fun k_ => (w.heap.size ≤ k_) ∧ some k_ ≠ (v175 : Value).ownBlock ∧ some k_ ≠ (u5 : Value).ownBlock ∧ k_ ≠ gb166 ∧ k_ ≠ gb167) ho0 (fun k_ hk_ => ⟨Or.elim hk_.1 (fun hs_ => hs_.1) (fun hn_ => (Nat.le_trans (below_size (by repeat (first | (with_reducible first | exact HB.out | apply below_alloc | apply pw_below_drewN | apply below_drew1 | refine below_set ?_ GE166.out | refine below_set ?_ GE167.out) | exact HB.out))) hn_)), hk_.2, Or.elim hk_.1 (fun hs_ => hs_.2.1) (fun hn_ => (Kd.fresh' (Kd.N_lt (Kd.pN HO_5.out)) k_ hn_)), Or.elim hk_.1 (fun hs_ => hs_.2.2.1) (fun hn_ => (Kd.freshB (g := gb166) (o := .cells #[.int .i64 0, .string (⟨#[]⟩ : ByteArray), .slice none 0 0] 24 (0, 0)) (pB BK166.out) k_ hn_)), Or.elim hk_.1 (fun hs_ => hs_.2.2.2) (fun hn_ => (Kd.freshB (g := gb167) (o := .cells #[.int .i64 x168000_1, .string x168001_1, .slice Ao37 x168002_1.length co37] 24 (0, 0)) (pB BK167.out) k_ hn_))⟩)) (below_size (by repeat (first | (with_reducible first | exact HB.out | apply below_alloc | apply pw_below_drewN | apply below_drew1 | refine below_set ?_ GE166.out | refine below_set ?_ GE167.out) | exact HB.out))))
         have n3_ := Aside0.mk (Kd.N_lower (Kd.N_mono (ok' := fun k_ => (w.heap.size ≤ k_) ∧ some k_ ≠ (u5 : Value).ownBlock ∧ k_ ≠ gb166 ∧ k_ ≠ gb167) ho1 (fun k_ hk_ => ⟨Or.elim hk_ (fun hs_ => hs_.1) (fun hn_ => (Nat.le_trans (below_size (by repeat (first | (with_reducible first | exact HB.out | apply below_alloc | apply pw_below_drewN | apply below_drew1 | refine below_set ?_ GE166.out | refine below_set ?_ GE167.out) | exact HB.out))) hn_)), Or.elim hk_ (fun hs_ => hs_.2.1) (fun hn_ => (Kd.fresh' (Kd.N_lt (Kd.pN HO_5.out)) k_ hn_)), Or.elim hk_ (fun hs_ => hs_.2.2.1) (fun hn_ => (Kd.freshB (g := gb166) (o := .cells #[.int .i64 0, .string (⟨#[]⟩ : ByteArray), .slice none 0 0] 24 (0, 0)) (pB BK166.out) k_ hn_)), Or.elim hk_ (fun hs_ => hs_.2.2.2) (fun hn_ => (Kd.freshB (g := gb167) (o := .cells #[.int .i64 x168000_1, .string x168001_1, .slice Ao37 x168002_1.length co37] 24 (0, 0)) (pB BK167.out) k_ hn_))⟩)) (below_size (by repeat (first | (with_reducible first | exact HB.out | apply below_alloc | apply pw_below_drewN | apply below_drew1 | refine below_set ?_ GE166.out | refine below_set ?_ GE167.out) | exact HB.out))))
         have n4_ := Aside0.mk (blk_below (g := gb166) (o := .cells #[.int .i64 0, .string (⟨#[]⟩ : ByteArray), .slice none 0 0] 24 (0, 0)) (pB BK166.out) hb)
         have n5_ := Aside0.mk (blk_below (g := gb167) (o := .cells #[.int .i64 x168000_1, .string x168001_1, .slice Ao37 x168002_1.length co37] 24 (0, 0)) (pB BK167.out) hb)
         have n6_ := Aside0.mk (below_step (by repeat (first | (with_reducible first | exact HB.out | apply below_alloc | apply pw_below_drewN | apply below_drew1 | refine below_set ?_ GE166.out | refine below_set ?_ GE167.out) | exact HB.out)) hb)
         clear HO_5
         clear HO_168002
         clear BK166
         clear BK167
         clear HB
         have HO_5 := n0_
         have HO_168002 := n1_
         have HO173 := n2_
         have HO176 := n3_
         have BK166 := n4_
         have BK167 := n5_
         have HB := n6_
         clear n0_ n1_ n2_ n3_ n4_ n5_ n6_
         (try clear hb)
         (try clear hb2)
         (try clear hk)
         (try clear hi)
         (try clear ho0)
         (try clear ho1)
         refine hK.out _ _ ⟨(blk_cell BK167.out 0).trans rfl, (blk_cell BK167.out 1).trans rfl, (blk_cell BK167.out 2).trans rfl, ((HB.out.cell (World.block_lt_of_cell? w _ hw168_0)).trans (by first | exact hw168_0 | (rw [hw168_0, ← Nbq10.out]))), ((HB.out.cell (World.block_lt_of_cell? w _ hw168_1)).trans (by first | exact hw168_1 | (rw [hw168_1, ← Nbq10.out])))⟩ (fun hHeld => ?_)
         clear hK K
         refine norm_ (a' := ?_) ?_ ?_
         rotate_left
         ·
          show Act.put _ (some 23) _ = _
          simp only [Act.put, List.setIfInBounds_toArray, List.set_cons_zero, List.set_cons_succ, i64_w, i32_w]
          rfl
         refine pure_ (i := 7) (N := some 16) (v := ?_) (a' := ?_) #[true, true, true, true, true, true, true, true, false, false, false, false, false] rfl rfl (any_of HT_.out (by kernel_rfl)) (fun _ _ _ h => h) (Or.inl ⟨by rfl, ?_⟩) ?_ ?_
         rotate_left
         ·
          intro w'
          go_simp
          with_reducible rfl
         rotate_left
         ·
          simp only [Act.put, List.setIfInBounds_toArray, List.set_cons_zero, List.set_cons_succ, i64_w, i32_w]
          rfl
         refine pure_ (i := 8) (N := some 24) (v := ?_) (a' := ?_) #[true, true, true, true, true, true, true, true, true, false, false, false, false] rfl rfl (any_of HT_.out (by kernel_rfl)) (fun _ _ _ h => h) (Or.inl ⟨by rfl, ?_⟩) ?_ ?_
         rotate_left
         ·
          intro w'
          go_simp
          with_reducible rfl
         rotate_left
         ·
          simp only [Act.put, List.setIfInBounds_toArray, List.set_cons_zero, List.set_cons_succ, i64_w, i32_w]
          rfl
         refine pure_ (i := 9) (N := some 25) (v := ?_) (a' := ?_) #[true, true, true, true, true, true, true, true, true, true, false, false, false] rfl rfl (any_of HT_.out (by kernel_rfl)) (fun _ _ _ h => h) (Or.inl ⟨by rfl, ?_⟩) ?_ ?_
         rotate_left
         ·
          intro w'
          go_simp
          with_reducible rfl
         rotate_left
         ·
          simp only [Act.put, List.setIfInBounds_toArray, List.set_cons_zero, List.set_cons_succ, i64_w, i32_w]
          rfl
         refine one_ (i := 10) (N := some 7) #[true, true, true, true, true, true, true, true, true, true, true, false, false] rfl rfl (one_of HT_.out (by kernel_rfl)) (by decide) (fun K hK => ?_)
         refine box_step ?hg (N := 7) ?hd (cs := #[.int .i64 0, .string (⟨#[]⟩ : ByteArray), .slice none 0 0]) (t := 24) ?hr ?_; (case hd => rfl); (case hg => rfl); (case hr => first | (go_simp; done) | (go_simp; rfl))
         intro gb177 hg w40 hbox hb
         have n0_ := Aside0.mk (Kd.N_below (Kd.N_elderB (Kd.pN HO_5.out) gb177 (Nat.le_of_eq hg.symm)) hb)
         have n1_ := Aside0.mk (Kd.V_below (Kd.V_elderB (Kd.pV HO_168002.out) gb177 (Nat.le_of_eq hg.symm)) hb)
         have n2_ := Aside0.mk (Kd.V_below (Kd.V_elderB (Kd.pV HO173.out) gb177 (Nat.le_of_eq hg.symm)) hb)
         have n3_ := Aside0.mk (Kd.N_below (Kd.N_elderB (Kd.pN HO176.out) gb177 (Nat.le_of_eq hg.symm)) hb)
         have n4_ := Aside0.mk (blk_below (g := gb166) (o := .cells #[.int .i64 0, .string (⟨#[]⟩ : ByteArray), .slice none 0 0] 24 (0, 0)) (pB BK166.out) hb)
         have n5_ := Aside0.mk (blk_below (g := gb167) (o := .cells #[.int .i64 x168000_1, .string x168001_1, .slice Ao37 x168002_1.length co37] 24 (0, 0)) (pB BK167.out) hb)
         have n6_ := Aside0.mk (below_step (by repeat (first | (with_reducible first | exact HB.out | apply below_alloc | apply pw_below_drewN | apply below_drew1 | refine below_set ?_ GE166.out | refine below_set ?_ GE167.out) | exact HB.out)) hb)
         have n7_ := Aside0.mk (hbox)
         have n8_ := Aside0.mk ((by rw [hg]; exact (below_size (by repeat (first | (with_reducible first | exact HB.out | apply below_alloc | apply pw_below_drewN | apply below_drew1 | refine below_set ?_ GE166.out | refine below_set ?_ GE167.out) | exact HB.out))) : w.heap.size ≤ gb177))
         have n9_ := Aside0.mk ((by rw [hg]; exact (below_size (by repeat (first | (with_reducible first | exact HB.out | apply below_alloc | apply pw_below_drewN | apply below_drew1 | refine below_set ?_ GE166.out | refine below_set ?_ GE167.out) | exact HB.out))) : w.heap.size ≤ gb177))
         have n10_ := Aside0.mk ((by rw [hg]; exact Nat.ne_of_lt (blk_lt (g := gb166) (o := .cells #[.int .i64 0, .string (⟨#[]⟩ : ByteArray), .slice none 0 0] 24 (0, 0)) (pB BK166.out)) : gb166 ≠ gb177))
         have n11_ := Aside0.mk ((by rw [hg]; exact Nat.ne_of_gt (blk_lt (g := gb166) (o := .cells #[.int .i64 0, .string (⟨#[]⟩ : ByteArray), .slice none 0 0] 24 (0, 0)) (pB BK166.out)) : gb177 ≠ gb166))
         have n12_ := Aside0.mk ((by rw [hg]; exact Nat.ne_of_lt (blk_lt (g := gb167) (o := .cells #[.int .i64 x168000_1, .string x168001_1, .slice Ao37 x168002_1.length co37] 24 (0, 0)) (pB BK167.out)) : gb167 ≠ gb177))
         have n13_ := Aside0.mk ((by rw [hg]; exact Nat.ne_of_gt (blk_lt (g := gb167) (o := .cells #[.int .i64 x168000_1, .string x168001_1, .slice Ao37 x168002_1.length co37] 24 (0, 0)) (pB BK167.out)) : gb177 ≠ gb167))
         clear HO_5
         clear HO_168002
         clear HO173
         clear HO176
         clear BK166
         clear BK167
         clear HB
         have HO_5 := n0_
         have HO_168002 := n1_
         have HO173 := n2_
         have HO176 := n3_
         have BK166 := n4_
         have BK167 := n5_
         have HB := n6_
         have BK177 := n7_
         have GW177 := n8_
         have GE177 := n9_
         have NB166_177 := n10_
         have NB177_166 := n11_
         have NB167_177 := n12_
         have NB177_167 := n13_
         clear n0_ n1_ n2_ n3_ n4_ n5_ n6_ n7_ n8_ n9_ n10_ n11_ n12_ n13_
         clear hb hbox hg
         refine hK.out _ _ ⟨(blk_cell BK167.out 0).trans rfl, (blk_cell BK167.out 1).trans rfl, (blk_cell BK167.out 2).trans rfl, ((HB.out.cell (World.block_lt_of_cell? w _ hw168_0)).trans (by first | exact hw168_0 | (rw [hw168_0, ← Nbq10.out]))), ((HB.out.cell (World.block_lt_of_cell? w _ hw168_1)).trans (by first | exact hw168_1 | (rw [hw168_1, ← Nbq10.out])))⟩ (fun hHeld => ?_)
         clear hK K
         refine norm_ (a' := ?_) ?_ ?_
         rotate_left
         ·
          show Act.put _ (some 7) _ = _
          simp only [Act.put, List.setIfInBounds_toArray, List.set_cons_zero, List.set_cons_succ, i64_w, i32_w]
          rfl
         exact norm_ (by simp only [putAll, Act.put, List.setIfInBounds_toArray, List.set_cons_zero, List.set_cons_succ]) (hCont (v172, v175, gb177) _ ⟨hHeld, (Kd.pV (Kd.V_mono HO173.out (fun _ hk => ⟨hk.1.1, ⟨hk.1.2.1, ⟨hk.1.2.2.1, ⟨hk.1.2.2.2.1, ⟨hk.1.2.2.2.2, hk.2⟩⟩⟩⟩⟩))), (Kd.pN (Kd.N_mono HO176.out (fun _ hk => ⟨hk.1.1, ⟨hk.1.2.1, ⟨hk.1.2.2.1, ⟨hk.1.2.2.2, hk.2⟩⟩⟩⟩))), (Kd.pV (Kd.V_mono HO_168002.out (fun _ hk => ⟨hk.1.1.1, ⟨hk.1.2, ⟨hk.1.1.2.1, ⟨hk.1.1.2.2.1, ⟨hk.1.1.2.2.2, hk.2⟩⟩⟩⟩⟩))), (Kd.pN (Kd.N_mono HO_5.out (fun _ hk => ⟨hk.1.1.1, ⟨hk.1.2, ⟨hk.1.1.2.1, ⟨hk.1.1.2.2, hk.2⟩⟩⟩⟩))), (pB BK166.out), (pB BK167.out), (pB BK177.out), GW177.out, GE177.out, NB166_177.out, NB177_166.out, NB167_177.out, NB177_167.out, (by repeat (first | (with_reducible first | exact HB.out | apply below_alloc | apply pw_below_drewN | apply below_drew1 | refine below_set ?_ GE166.out | refine below_set ?_ GE167.out | refine below_set ?_ GE177.out) | exact HB.out))⟩)
        ·
         skip
         refine box_step ?hg (N := 7) ?hd (cs := #[.int .i64 0, .string (⟨#[]⟩ : ByteArray), .slice none 0 0]) (t := 24) ?hr ?_; (case hd => rfl); (case hg => rfl); (case hr => first | (go_simp; done) | (go_simp; rfl))
         intro gb177 hg w39 hbox hb
         have n0_ := Aside0.mk (Kd.N_below (Kd.N_elderB (Kd.pN HO_5.out) gb177 (Nat.le_of_eq hg.symm)) hb)
         have n1_ := Aside0.mk (Kd.V_below (Kd.V_elderB (Kd.pV HO_168002.out) gb177 (Nat.le_of_eq hg.symm)) hb)
         have n2_ := Aside0.mk (blk_below (g := gb166) (o := .cells #[.int .i64 0, .string (⟨#[]⟩ : ByteArray), .slice none 0 0] 24 (0, 0)) (pB BK166.out) hb)
         have n3_ := Aside0.mk (blk_below (g := gb167) (o := .cells #[.int .i64 x168000_1, .string x168001_1, .slice Ao37 x168002_1.length co37] 24 (0, 0)) (pB BK167.out) hb)
         have n4_ := Aside0.mk (below_step (by repeat (first | (with_reducible first | exact HB.out | apply below_alloc | apply pw_below_drewN | apply below_drew1 | refine below_set ?_ GE166.out | refine below_set ?_ GE167.out) | exact HB.out)) hb)
         have n5_ := Aside0.mk (hbox)
         have n6_ := Aside0.mk ((by rw [hg]; exact (below_size (by repeat (first | (with_reducible first | exact HB.out | apply below_alloc | apply pw_below_drewN | apply below_drew1 | refine below_set ?_ GE166.out | refine below_set ?_ GE167.out) | exact HB.out))) : w.heap.size ≤ gb177))
         have n7_ := Aside0.mk ((by rw [hg]; exact (below_size (by repeat (first | (with_reducible first | exact HB.out | apply below_alloc | apply pw_below_drewN | apply below_drew1 | refine below_set ?_ GE166.out | refine below_set ?_ GE167.out) | exact HB.out))) : w.heap.size ≤ gb177))
         have n8_ := Aside0.mk ((by rw [hg]; exact Nat.ne_of_lt (blk_lt (g := gb166) (o := .cells #[.int .i64 0, .string (⟨#[]⟩ : ByteArray), .slice none 0 0] 24 (0, 0)) (pB BK166.out)) : gb166 ≠ gb177))
         have n9_ := Aside0.mk ((by rw [hg]; exact Nat.ne_of_gt (blk_lt (g := gb166) (o := .cells #[.int .i64 0, .string (⟨#[]⟩ : ByteArray), .slice none 0 0] 24 (0, 0)) (pB BK166.out)) : gb177 ≠ gb166))
         have n10_ := Aside0.mk ((by rw [hg]; exact Nat.ne_of_lt (blk_lt (g := gb167) (o := .cells #[.int .i64 x168000_1, .string x168001_1, .slice Ao37 x168002_1.length co37] 24 (0, 0)) (pB BK167.out)) : gb167 ≠ gb177))
         have n11_ := Aside0.mk ((by rw [hg]; exact Nat.ne_of_gt (blk_lt (g := gb167) (o := .cells #[.int .i64 x168000_1, .string x168001_1, .slice Ao37 x168002_1.length co37] 24 (0, 0)) (pB BK167.out)) : gb177 ≠ gb167))
         clear HO_5
         clear HO_168002
         clear BK166
         clear BK167
         clear HB
         have HO_5 := n0_
         have HO_168002 := n1_
         have BK166 := n2_
         have BK167 := n3_
         have HB := n4_
         have BK177 := n5_
         have GW177 := n6_
         have GE177 := n7_
         have NB166_177 := n8_
         have NB177_166 := n9_
         have NB167_177 := n10_
         have NB177_167 := n11_
         clear n0_ n1_ n2_ n3_ n4_ n5_ n6_ n7_ n8_ n9_ n10_ n11_
         clear hb hbox hg
         refine hK.out _ _ ⟨(blk_cell BK167.out 0).trans rfl, (blk_cell BK167.out 1).trans rfl, (blk_cell BK167.out 2).trans rfl, ((HB.out.cell (World.block_lt_of_cell? w _ hw168_0)).trans (by first | exact hw168_0 | (rw [hw168_0, ← Nbq10.out]))), ((HB.out.cell (World.block_lt_of_cell? w _ hw168_1)).trans (by first | exact hw168_1 | (rw [hw168_1, ← Nbq10.out])))⟩ (fun hHeld => ?_)
         clear hK K
         refine norm_ (a' := ?_) ?_ ?_
         rotate_left
         ·
          show Act.put _ (some 7) _ = _
          simp only [Act.put, List.setIfInBounds_toArray, List.set_cons_zero, List.set_cons_succ, i64_w, i32_w]
          rfl
         refine one_ (i := 6) (N := some 23) #[true, true, true, true, true, true, true, false, false, false, true, false, false] rfl rfl (one_of HT_.out (by kernel_rfl)) (by decide) (fun K hK => ?_)
         refine goes_ Try.func17 (by kernel_rfl) rfl #[.agg #[.int .i64 x168000_1, .string x168001_1, .slice Ao37 x168002_1.length co37], .slice A168_0 ((rd_T42 l0 x6_1).f0).length c168_0] (by rfl) rfl rfl (by (try simp only [List.map_toArray, List.map_cons, List.map_nil]); first | done | rfl | (simp only [List.length_drop, List.length_take]; rfl)) ?_
         with_reducible refine (cut_Feed.calls k1 x168000_1 x168001_1 (fun k_ => (((w.heap.size ≤ k_) ∧ (some k_ ≠ (u5 : Value).ownBlock ∧ (k_ ≠ gb166 ∧ k_ ≠ gb167))) ∧ k_ ≠ gb177)) _ _ x168002_1 _ _ ((rd_T42 l0 x6_1).f0) t169 t170 t171 t174 _ ?side1 ?side2 ?side3 A8.out).mono ?_
         (case side1 => exact HO_168002.out)
         (case side2 => repeat (first | exact (Kd.C_below HR168_0.out HB.out) | (with_reducible refine Kd.C_alloc ?_ _) | (with_reducible refine Kd.C_drewN ?_ _) | (with_reducible refine Kd.C_drew ?_)))
         (case side3 => exact HC168_0.out)
         rintro e w40 ⟨v172, v175, rfl, ho0, ho1, hb⟩
         refine ⟨_, rfl, ?_⟩
         have n0_ := Aside0.mk (Kd.N_elder' (Kd.pN HO_5.out) (Kd.N_base ho1) hb)
         have n1_ := Aside0.mk (Kd.V_elder' (Kd.pV HO_168002.out) (Kd.N_base ho1) hb)
         have n2_ := Aside0.mk (Kd.V_lower (Kd.V_mono (ok' := fun k_ => (w.heap.size ≤ k_) ∧ some k_ ≠ (v175 : Value).ownBlock ∧ some k_ ≠ (u5 : Value).ownBlock ∧ k_ ≠ gb166 ∧ k_ ≠ gb167 ∧ k_ ≠ gb177) ho0 (fun k_ hk_ => ⟨Or.elim hk_.1 (fun hs_ => hs_.1.1) (fun hn_ => (Nat.le_trans (below_size (by repeat (first | (with_reducible first | exact HB.out | apply below_alloc | apply pw_below_drewN | apply below_drew1 | refine below_set ?_ GE166.out | refine below_set ?_ GE167.out | refine below_set ?_ GE177.out) | exact HB.out))) hn_)), hk_.2, Or.elim hk_.1 (fun hs_ => hs_.1.2.1) (fun hn_ => (Kd.fresh' (Kd.N_lt (Kd.pN HO_5.out)) k_ hn_)), Or.elim hk_.1 (fun hs_ => hs_.1.2.2.1) (fun hn_ => (Kd.freshB (g := gb166) (o := .cells #[.int .i64 0, .string (⟨#[]⟩ : ByteArray), .slice none 0 0] 24 (0, 0)) (pB BK166.out) k_ hn_)), Or.elim hk_.1 (fun hs_ => hs_.1.2.2.2) (fun hn_ => (Kd.freshB (g := gb167) (o := .cells #[.int .i64 x168000_1, .string x168001_1, .slice Ao37 x168002_1.length co37] 24 (0, 0)) (pB BK167.out) k_ hn_)), Or.elim hk_.1 (fun hs_ => hs_.2) (fun hn_ => (Kd.freshB (g := gb177) (o := .cells #[.int .i64 0, .string (⟨#[]⟩ : ByteArray), .slice none 0 0] 24 (0, 0)) (pB BK177.out) k_ hn_))⟩)) (below_size (by repeat (first | (with_reducible first | exact HB.out | apply below_alloc | apply pw_below_drewN | apply below_drew1 | refine below_set ?_ GE166.out | refine below_set ?_ GE167.out | refine below_set ?_ GE177.out) | exact HB.out))))
         have n3_ := Aside0.mk (Kd.N_lower (Kd.N_mono (ok' := fun k_ => (w.heap.size ≤ k_) ∧ some k_ ≠ (u5 : Value).ownBlock ∧ k_ ≠ gb166 ∧ k_ ≠ gb167 ∧ k_ ≠ gb177) ho1 (fun k_ hk_ => ⟨Or.elim hk_ (fun hs_ => hs_.1.1) (fun hn_ => (Nat.le_trans (below_size (by repeat (first | (with_reducible first | exact HB.out | apply below_alloc | apply pw_below_drewN | apply below_drew1 | refine below_set ?_ GE166.out | refine below_set ?_ GE167.out | refine below_set ?_ GE177.out) | exact HB.out))) hn_)), Or.elim hk_ (fun hs_ => hs_.1.2.1) (fun hn_ => (Kd.fresh' (Kd.N_lt (Kd.pN HO_5.out)) k_ hn_)), Or.elim hk_ (fun hs_ => hs_.1.2.2.1) (fun hn_ => (Kd.freshB (g := gb166) (o := .cells #[.int .i64 0, .string (⟨#[]⟩ : ByteArray), .slice none 0 0] 24 (0, 0)) (pB BK166.out) k_ hn_)), Or.elim hk_ (fun hs_ => hs_.1.2.2.2) (fun hn_ => (Kd.freshB (g := gb167) (o := .cells #[.int .i64 x168000_1, .string x168001_1, .slice Ao37 x168002_1.length co37] 24 (0, 0)) (pB BK167.out) k_ hn_)), Or.elim hk_ (fun hs_ => hs_.2) (fun hn_ => (Kd.freshB (g := gb177) (o := .cells #[.int .i64 0, .string (⟨#[]⟩ : ByteArray), .slice none 0 0] 24 (0, 0)) (pB BK177.out) k_ hn_))⟩)) (below_size (by repeat (first | (with_reducible first | exact HB.out | apply below_alloc | apply pw_below_drewN | apply below_drew1 | refine below_set ?_ GE166.out | refine below_set ?_ GE167.out | refine below_set ?_ GE177.out) | exact HB.out))))
         have n4_ := Aside0.mk (blk_below (g := gb166) (o := .cells #[.int .i64 0, .string (⟨#[]⟩ : ByteArray), .slice none 0 0] 24 (0, 0)) (pB BK166.out) hb)
         have n5_ := Aside0.mk (blk_below (g := gb167) (o := .cells #[.int .i64 x168000_1, .string x168001_1, .slice Ao37 x168002_1.length co37] 24 (0, 0)) (pB BK167.out) hb)
         have n6_ := Aside0.mk (blk_below (g := gb177) (o := .cells #[.int .i64 0, .string (⟨#[]⟩ : ByteArray), .slice none 0 0] 24 (0, 0)) (pB BK177.out) hb)
         have n7_ := Aside0.mk (below_step (by repeat (first | (with_reducible first | exact HB.out | apply below_alloc | apply pw_below_drewN | apply below_drew1 | refine below_set ?_ GE166.out | refine below_set ?_ GE167.out | refine below_set ?_ GE177.out) | exact HB.out)) hb)
         clear HO_5
         clear HO_168002
         clear BK166
         clear BK167
         clear BK177
         clear HB
         have HO_5 := n0_
         have HO_168002 := n1_
         have HO173 := n2_
         have HO176 := n3_
         have BK166 := n4_
         have BK167 := n5_
         have BK177 := n6_
         have HB := n7_
         clear n0_ n1_ n2_ n3_ n4_ n5_ n6_ n7_
         (try clear hb)
         (try clear hb2)
         (try clear hk)
         (try clear hi)
         (try clear ho0)
         (try clear ho1)
         refine hK.out _ _ ⟨(blk_cell BK167.out 0).trans rfl, (blk_cell BK167.out 1).trans rfl, (blk_cell BK167.out 2).trans rfl, ((HB.out.cell (World.block_lt_of_cell? w _ hw168_0)).trans (by first | exact hw168_0 | (rw [hw168_0, ← Nbq10.out]))), ((HB.out.cell (World.block_lt_of_cell? w _ hw168_1)).trans (by first | exact hw168_1 | (rw [hw168_1, ← Nbq10.out])))⟩ (fun hHeld => ?_)
         clear hK K
         refine norm_ (a' := ?_) ?_ ?_
         rotate_left
         ·
          show Act.put _ (some 23) _ = _
          simp only [Act.put, List.setIfInBounds_toArray, List.set_cons_zero, List.set_cons_succ, i64_w, i32_w]
          rfl
         refine pure_ (i := 7) (N := some 16) (v := ?_) (a' := ?_) #[true, true, true, true, true, true, true, true, false, false, true, false, false] rfl rfl (any_of HT_.out (by kernel_rfl)) (fun _ _ _ h => h) (Or.inl ⟨by rfl, ?_⟩) ?_ ?_
         rotate_left
         ·
          intro w'
          go_simp
          with_reducible rfl
         rotate_left
         ·
          simp only [Act.put, List.setIfInBounds_toArray, List.set_cons_zero, List.set_cons_succ, i64_w, i32_w]
          rfl
         refine pure_ (i := 8) (N := some 24) (v := ?_) (a' := ?_) #[true, true, true, true, true, true, true, true, true, false, true, false, false] rfl rfl (any_of HT_.out (by kernel_rfl)) (fun _ _ _ h => h) (Or.inl ⟨by rfl, ?_⟩) ?_ ?_
         rotate_left
         ·
          intro w'
          go_simp
          with_reducible rfl
         rotate_left
         ·
          simp only [Act.put, List.setIfInBounds_toArray, List.set_cons_zero, List.set_cons_succ, i64_w, i32_w]
          rfl
         refine pure_ (i := 9) (N := some 25) (v := ?_) (a' := ?_) #[true, true, true, true, true, true, true, true, true, true, true, false, false] rfl rfl (any_of HT_.out (by kernel_rfl)) (fun _ _ _ h => h) (Or.inl ⟨by rfl, ?_⟩) ?_ ?_
         rotate_left
         ·
          intro w'
          go_simp
          with_reducible rfl
         rotate_left
         ·
          simp only [Act.put, List.setIfInBounds_toArray, List.set_cons_zero, List.set_cons_succ, i64_w, i32_w]
          rfl
         exact norm_ (by simp only [putAll, Act.put, List.setIfInBounds_toArray, List.set_cons_zero, List.set_cons_succ]) (hCont (v172, v175, gb177) _ ⟨hHeld, (Kd.pV HO173.out), (Kd.pN HO176.out), (Kd.pV (Kd.V_mono HO_168002.out (fun _ hk => ⟨hk.1.1.1, ⟨hk.2, ⟨hk.1.1.2.1, ⟨hk.1.1.2.2.1, ⟨hk.1.1.2.2.2, hk.1.2⟩⟩⟩⟩⟩))), (Kd.pN (Kd.N_mono HO_5.out (fun _ hk => ⟨hk.1.1.1, ⟨hk.2, ⟨hk.1.1.2.1, ⟨hk.1.1.2.2, hk.1.2⟩⟩⟩⟩))), (pB BK166.out), (pB BK167.out), (pB BK177.out), GW177.out, GE177.out, NB166_177.out, NB177_166.out, NB167_177.out, NB177_167.out, (by repeat (first | (with_reducible first | exact HB.out | apply below_alloc | apply pw_below_drewN | apply below_drew1 | refine below_set ?_ GE166.out | refine below_set ?_ GE167.out | refine below_set ?_ GE177.out) | exact HB.out))⟩)
       rintro ⟨v172, v175, gb177⟩ w41 ⟨hS_, h0_, h1_, h2_, h3_, h4_, h5_, h6_, h7_, h8_, h9_, h10_, h11_, h12_, h13_⟩
       have n0_ : Aside0 (Kd.V Kd.string 9 w41 w.heap.size (fun k_ => (w.heap.size ≤ k_) ∧ some k_ ≠ (v175 : Value).ownBlock ∧ some k_ ≠ (u5 : Value).ownBlock ∧ k_ ≠ gb166 ∧ k_ ≠ gb167 ∧ k_ ≠ gb177) v172 t171) := ⟨h0_⟩
       have n1_ : Aside0 (Kd.N k25 25 w41 w.heap.size (fun k_ => (w.heap.size ≤ k_) ∧ some k_ ≠ (u5 : Value).ownBlock ∧ k_ ≠ gb166 ∧ k_ ≠ gb167 ∧ k_ ≠ gb177) v175 t174) := ⟨h1_⟩
       have n2_ : Aside0 (Kd.V Kd.string 9 w41 w.heap.size (fun k_ => (w.heap.size ≤ k_) ∧ some k_ ≠ (v175 : Value).ownBlock ∧ some k_ ≠ (u5 : Value).ownBlock ∧ k_ ≠ gb166 ∧ k_ ≠ gb167 ∧ k_ ≠ gb177) (.slice Ao37 x168002_1.length co37) x168002_1) := ⟨h2_⟩
       have n3_ : Aside0 (Kd.N k25 25 w41 w.heap.size (fun k_ => (w.heap.size ≤ k_) ∧ some k_ ≠ (v175 : Value).ownBlock ∧ k_ ≠ gb166 ∧ k_ ≠ gb167 ∧ k_ ≠ gb177) u5 x5_1) := ⟨h3_⟩
       have n4_ : Aside0 (w41.heap[gb166]? = some (.cells #[.int .i64 0, .string (⟨#[]⟩ : ByteArray), .slice none 0 0] 24 (0, 0))) := ⟨h4_⟩
       have n5_ : Aside0 (w41.heap[gb167]? = some (.cells #[.int .i64 x168000_1, .string x168001_1, .slice Ao37 x168002_1.length co37] 24 (0, 0))) := ⟨h5_⟩
       have n6_ : Aside0 (w41.heap[gb177]? = some (.cells #[.int .i64 0, .string (⟨#[]⟩ : ByteArray), .slice none 0 0] 24 (0, 0))) := ⟨h6_⟩
       have n7_ : Aside0 (w.heap.size ≤ gb177) := ⟨h7_⟩
       have n8_ : Aside0 (w.heap.size ≤ gb177) := ⟨h8_⟩
       have n9_ : Aside0 (gb166 ≠ gb177) := ⟨h9_⟩
       have n10_ : Aside0 (gb177 ≠ gb166) := ⟨h10_⟩
       have n11_ : Aside0 (gb167 ≠ gb177) := ⟨h11_⟩
       have n12_ : Aside0 (gb177 ≠ gb167) := ⟨h12_⟩
       have n13_ : Aside0 (Below w.heap.size w w41) := ⟨h13_⟩
       clear HO_5
       clear HO_168002
       clear BK166
       clear BK167
       clear HB
       clear h0_ h1_ h2_ h3_ h4_ h5_ h6_ h7_ h8_ h9_ h10_ h11_ h12_ h13_
       have HO173 := n0_
       have HO176 := n1_
       have HO_168002 := n2_
       have HO_5 := n3_
       have BK166 := n4_
       have BK167 := n5_
       have BK177 := n6_
       have GW177 := n7_
       have GE177 := n8_
       have NB166_177 := n9_
       have NB177_166 := n10_
       have NB167_177 := n11_
       have NB177_167 := n12_
       have HB := n13_
       clear n0_ n1_ n2_ n3_ n4_ n5_ n6_ n7_ n8_ n9_ n10_ n11_ n12_ n13_
       have hHeld : w41.cell? ⟨gb167, 0, none⟩ = some (.int .i64 x168000_1) ∧ w41.cell? ⟨gb167, 1, none⟩ = some (.string x168001_1) ∧ w41.cell? ⟨gb167, 2, none⟩ = some (.slice Ao37 x168002_1.length co37) ∧ w41.cell? (ad168.add ((x6_1).toNat * 2)) = some (.slice A168_0 ((rd_T42 l0 x6_1).f0).length c168_0) ∧ w41.cell? ⟨(ad168.add ((x6_1).toNat * 2)).block, (ad168.add ((x6_1).toNat * 2)).off + 1, none⟩ = some (.bool false) := hS_
       obtain ⟨Ao44, co44, eo44⟩ := Kd.V_slice HO173.out
       (first | subst eo44 | (injection eo44 with f1_ f2_ f3_; have f4_ := f1_.symm; have f5_ := f3_.symm; clear f1_ f2_ f3_; subst f4_; subst f5_))
       refine norm_ (a' := ?_) ?_ ?_
       rotate_left
       ·
        simp only [putAll, Act.put, List.setIfInBounds_toArray, List.set_cons_zero, List.set_cons_succ]
        rfl
       refine one_ (i := 11) (N := none) #[true, true, true, true, true, true, true, true, true, true, true, true, false] rfl rfl (one_of HT_.out (by kernel_rfl)) (by decide) (fun K hK => ?_)
       have hs42 : w41.cell? ⟨gb177, 0, none⟩ = some (.int .i64 0) := (blk_cell BK177.out 0).trans rfl
       have hfs42 := blk_frozen BK177.out 0
       have hns42_0 := NB166_177.out
       have hns42_1 := NB167_177.out
       have hms42_0 := NB177_166.out
       have hms42_1 := NB177_167.out
       have hs43 : w41.cell? ⟨gb177, 1, none⟩ = some (.string (⟨#[]⟩ : ByteArray)) := (blk_cell BK177.out 1).trans rfl
       have hfs43 := blk_frozen BK177.out 1
       have hns43_0 := NB166_177.out
       have hns43_1 := NB167_177.out
       have hms43_0 := NB177_166.out
       have hms43_1 := NB177_167.out
       have hs45 : w41.cell? ⟨gb177, 2, none⟩ = some (.slice none 0 0) := (blk_cell BK177.out 2).trans rfl
       have hfs45 := blk_frozen BK177.out 2
       have hns45_0 := NB166_177.out
       have hns45_1 := NB167_177.out
       have hms45_0 := NB177_166.out
       have hms45_1 := NB177_167.out
       refine skip_ (w1 := ?_) (by rfl) rfl ?_ ?_
       rotate_left
       ·
        go_simp
        rfl
       refine hK.out _ _ ⟨((cell_far (p := ⟨gb177, _, none⟩) NB167_177.out _).trans (((cell_far (p := ⟨gb177, _, none⟩) NB167_177.out _).trans (((cell_far (p := ⟨gb177, _, none⟩) NB167_177.out _).trans (hHeld.1)))))), ((cell_far (p := ⟨gb177, _, none⟩) NB167_177.out _).trans (((cell_far (p := ⟨gb177, _, none⟩) NB167_177.out _).trans (((cell_far (p := ⟨gb177, _, none⟩) NB167_177.out _).trans (hHeld.2.1)))))), ((cell_far (p := ⟨gb177, _, none⟩) NB167_177.out _).trans (((cell_far (p := ⟨gb177, _, none⟩) NB167_177.out _).trans (((cell_far (p := ⟨gb177, _, none⟩) NB167_177.out _).trans (hHeld.2.2.1)))))), ((cell_far (p := ⟨gb177, _, none⟩) (by first | exact Nat.ne_of_lt (Nat.lt_of_lt_of_le (by have := World.block_lt_of_cell? _ _ hw168_0; first | rwa [add_block] at this | exact this) GW177.out) | (rw [add_block]; exact Nat.ne_of_lt (Nat.lt_of_lt_of_le (by have := World.block_lt_of_cell? _ _ hw168_0; first | rwa [add_block] at this | exact this) GW177.out)) | (show (Addr.add _ _).block ≠ _; rw [add_block]; exact Nat.ne_of_lt (Nat.lt_of_lt_of_le (by have := World.block_lt_of_cell? _ _ hw168_0; first | rwa [add_block] at this | exact this) GW177.out)) | (dsimp only; exact Nat.ne_of_lt (Nat.lt_of_lt_of_le (by have := World.block_lt_of_cell? _ _ hw168_0; first | rwa [add_block] at this | exact this) GW177.out))) _).trans (((cell_far (p := ⟨gb177, _, none⟩) (by first | exact Nat.ne_of_lt (Nat.lt_of_lt_of_le (by have := World.block_lt_of_cell? _ _ hw168_0; first | rwa [add_block] at this | exact this) GW177.out) | (rw [add_block]; exact Nat.ne_of_lt (Nat.lt_of_lt_of_le (by have := World.block_lt_of_cell? _ _ hw168_0; first | rwa [add_block] at this | exact this) GW177.out)) | (show (Addr.add _ _).block ≠ _; rw [add_block]; exact Nat.ne_of_lt (Nat.lt_of_lt_of_le (by have := World.block_lt_of_cell? _ _ hw168_0; first | rwa [add_block] at this | exact this) GW177.out)) | (dsimp only; exact Nat.ne_of_lt (Nat.lt_of_lt_of_le (by have := World.block_lt_of_cell? _ _ hw168_0; first | rwa [add_block] at this | exact this) GW177.out))) _).trans (((cell_far (p := ⟨gb177, _, none⟩) (by first | exact Nat.ne_of_lt (Nat.lt_of_lt_of_le (by have := World.block_lt_of_cell? _ _ hw168_0; first | rwa [add_block] at this | exact this) GW177.out) | (rw [add_block]; exact Nat.ne_of_lt (Nat.lt_of_lt_of_le (by have := World.block_lt_of_cell? _ _ hw168_0; first | rwa [add_block] at this | exact this) GW177.out)) | (show (Addr.add _ _).block ≠ _; rw [add_block]; exact Nat.ne_of_lt (Nat.lt_of_lt_of_le (by have := World.block_lt_of_cell? _ _ hw168_0; first | rwa [add_block] at this | exact this) GW177.out)) | (dsimp only; exact Nat.ne_of_lt (Nat.lt_of_lt_of_le (by have := World.block_lt_of_cell? _ _ hw168_0; first | rwa [add_block] at this | exact this) GW177.out))) _).trans (hHeld.2.2.2.1)))))), ((cell_far (p := ⟨gb177, _, none⟩) (by first | exact Nat.ne_of_lt (Nat.lt_of_lt_of_le (by have := World.block_lt_of_cell? _ _ hw168_1; first | rwa [add_block] at this | exact this) GW177.out) | (rw [add_block]; exact Nat.ne_of_lt (Nat.lt_of_lt_of_le (by have := World.block_lt_of_cell? _ _ hw168_1; first | rwa [add_block] at this | exact this) GW177.out)) | (show (Addr.add _ _).block ≠ _; rw [add_block]; exact Nat.ne_of_lt (Nat.lt_of_lt_of_le (by have := World.block_lt_of_cell? _ _ hw168_1; first | rwa [add_block] at this | exact this) GW177.out)) | (dsimp only; exact Nat.ne_of_lt (Nat.lt_of_lt_of_le (by have := World.block_lt_of_cell? _ _ hw168_1; first | rwa [add_block] at this | exact this) GW177.out))) _).trans (((cell_far (p := ⟨gb177, _, none⟩) (by first | exact Nat.ne_of_lt (Nat.lt_of_lt_of_le (by have := World.block_lt_of_cell? _ _ hw168_1; first | rwa [add_block] at this | exact this) GW177.out) | (rw [add_block]; exact Nat.ne_of_lt (Nat.lt_of_lt_of_le (by have := World.block_lt_of_cell? _ _ hw168_1; first | rwa [add_block] at this | exact this) GW177.out)) | (show (Addr.add _ _).block ≠ _; rw [add_block]; exact Nat.ne_of_lt (Nat.lt_of_lt_of_le (by have := World.block_lt_of_cell? _ _ hw168_1; first | rwa [add_block] at this | exact this) GW177.out)) | (dsimp only; exact Nat.ne_of_lt (Nat.lt_of_lt_of_le (by have := World.block_lt_of_cell? _ _ hw168_1; first | rwa [add_block] at this | exact this) GW177.out))) _).trans (((cell_far (p := ⟨gb177, _, none⟩) (by first | exact Nat.ne_of_lt (Nat.lt_of_lt_of_le (by have := World.block_lt_of_cell? _ _ hw168_1; first | rwa [add_block] at this | exact this) GW177.out) | (rw [add_block]; exact Nat.ne_of_lt (Nat.lt_of_lt_of_le (by have := World.block_lt_of_cell? _ _ hw168_1; first | rwa [add_block] at this | exact this) GW177.out)) | (show (Addr.add _ _).block ≠ _; rw [add_block]; exact Nat.ne_of_lt (Nat.lt_of_lt_of_le (by have := World.block_lt_of_cell? _ _ hw168_1; first | rwa [add_block] at this | exact this) GW177.out)) | (dsimp only; exact Nat.ne_of_lt (Nat.lt_of_lt_of_le (by have := World.block_lt_of_cell? _ _ hw168_1; first | rwa [add_block] at this | exact this) GW177.out))) _).trans (hHeld.2.2.2.2))))))⟩ (fun hHeld => ?_)
       clear hK K
       refine pure_ (i := 12) (N := some 8) (v := ?_) (a' := ?_) #[true, true, true, true, true, true, true, true, true, true, true, true, true] rfl rfl (any_of HT_.out (by kernel_rfl)) (fun _ _ _ h => h) (Or.inl ⟨by rfl, ?_⟩) ?_ ?_
       rotate_left
       ·
        intro w'
        go_simp
        with_reducible rfl
       rotate_left
       ·
        simp only [Act.put, List.setIfInBounds_toArray, List.set_cons_zero, List.set_cons_succ, i64_w, i32_w]
        rfl
       refine done_ (done_of HT_.out (by kernel_rfl)) ?_
       have hnb46 := NB177_166.out
       have hnc46 := NB166_177.out
       have hnb47 := NB177_167.out
       have hnc47 := NB167_177.out
       have hcz48_0 : w41.cell? ⟨gb177, 0, none⟩ = some (.int .i64 0) := (blk_cell BK177.out 0).trans rfl
       have hcz48_1 : w41.cell? ⟨gb177, 1, none⟩ = some (.string (⟨#[]⟩ : ByteArray)) := (blk_cell BK177.out 1).trans rfl
       have hcz48_2 : w41.cell? ⟨gb177, 2, none⟩ = some (.slice none 0 0) := (blk_cell BK177.out 2).trans rfl
       have hfz48_0 := blk_frozen BK177.out 0
       have hfz48_1 := blk_frozen BK177.out 1
       have hfz48_2 := blk_frozen BK177.out 2
       have hnb49 := NB167_166.out
       have hnc49 := NB166_167.out
       have hcz50_0 : w41.cell? ⟨gb167, 0, none⟩ = some (.int .i64 x168000_1) := (blk_cell BK167.out 0).trans rfl
       have hcz50_1 : w41.cell? ⟨gb167, 1, none⟩ = some (.string x168001_1) := (blk_cell BK167.out 1).trans rfl
       have hcz50_2 : w41.cell? ⟨gb167, 2, none⟩ = some (.slice Ao37 x168002_1.length co37) := (blk_cell BK167.out 2).trans rfl
       have hfz50_0 := blk_frozen BK167.out 0
       have hfz50_1 := blk_frozen BK167.out 1
       have hfz50_2 := blk_frozen BK167.out 2
       obtain ⟨Ao52, co52, eo52⟩ := Kd.N_slice HO176.out
       subst eo52
       try go_wp2_with (first | ((with_reducible refine gate_builtin (b := .append) (xs := #[.tmp 27, .tmp 28]) rfl ?_); at_builtin; refine Kd.N_append_rows k25 (w0 := w) w.heap.size rfl (.tmp 27) (.tmp 28) 29 25 (.agg #[(.int .i64 0), (.string ⟨#[]⟩), (.slice none 0 0)]) 48 rfl Try.underlying29 info25 rfl (by decide) (by omega) u5 x5_1 t174 _ _ _ (fun k_ => (w.heap.size ≤ k_) ∧ k_ ≠ gb166 ∧ k_ ≠ gb167 ∧ k_ ≠ gb177) (fun k_ => ((fun k_ => (w.heap.size ≤ k_) ∧ k_ ≠ gb166 ∧ k_ ≠ gb167 ∧ k_ ≠ gb177)) k_ ∧ some k_ ≠ (u5 : Value).ownBlock) rfl rfl ?aO ?aR (fun _ hk => hk) ?aF ?aB ?aS ?aL ?_; (case aR => exact (by skip; exact Kd.N_F (Kd.N_mono (ok' := (fun k_ => ((fun k_ => (w.heap.size ≤ k_) ∧ k_ ≠ gb166 ∧ k_ ≠ gb167 ∧ k_ ≠ gb177)) k_ ∧ some k_ ≠ (u5 : Value).ownBlock)) ((Kd.N_far (p := ⟨gb167, 2, none⟩) (Kd.N_far (p := ⟨gb167, 1, none⟩) (Kd.N_far (p := ⟨gb167, 0, none⟩) (Kd.N_far (p := ⟨gb177, 2, none⟩) (Kd.N_far (p := ⟨gb177, 1, none⟩) (Kd.N_far (p := ⟨gb177, 0, none⟩) (Kd.N_mono (Kd.N_mono HO176.out (fun k_ hk => (⟨hk, hk.2.2.2.2⟩ : _ ∧ k_ ≠ gb177))) (fun k_ hk => (⟨hk, hk.1.2.2.2.1⟩ : _ ∧ k_ ≠ gb167))) (fun _ hk => hk.1.2) (.int .i64 t169)) (fun _ hk => hk.1.2) (.string t170)) (fun _ hk => hk.1.2) (.slice Ao44 t171.length co44)) (fun _ hk => hk.2) (.int .i64 t169)) (fun _ hk => hk.2) (.string t170)) (fun _ hk => hk.2) (.slice Ao44 t171.length co44))) (fun k_ hk => ⟨⟨hk.1.1.1, ⟨hk.1.1.2.2.1, ⟨hk.1.1.2.2.2.1, hk.1.1.2.2.2.2⟩⟩⟩, hk.1.1.2.1⟩)))); (case aB => exact (by repeat (first | (with_reducible first | exact HB.out | apply below_alloc | apply pw_below_drewN | apply below_drew1 | refine below_set ?_ GE166.out | refine below_set ?_ GE167.out | refine below_set ?_ GE177.out) | exact HB.out))); (case aF => exact (fun k_ hk => ⟨(Nat.le_trans (below_size (by repeat (first | (with_reducible first | exact HB.out | apply below_alloc | apply pw_below_drewN | apply below_drew1 | refine below_set ?_ GE166.out | refine below_set ?_ GE167.out | refine below_set ?_ GE177.out) | exact HB.out))) hk), Kd.freshB (g := gb166) (o := .cells #[.int .i64 0, .string (⟨#[]⟩ : ByteArray), .slice none 0 0] 24 (0, 0)) (by (with_reducible repeat (first | refine blk_drewN ?_ _ | refine blk_drew ?_ | refine blk_alloc ?_ _)); refine blk_far ?_ NB166_167.out _; (with_reducible repeat (first | refine blk_drewN ?_ _ | refine blk_drew ?_ | refine blk_alloc ?_ _)); refine blk_far ?_ NB166_167.out _; (with_reducible repeat (first | refine blk_drewN ?_ _ | refine blk_drew ?_ | refine blk_alloc ?_ _)); refine blk_far ?_ NB166_167.out _; (with_reducible repeat (first | refine blk_drewN ?_ _ | refine blk_drew ?_ | refine blk_alloc ?_ _)); refine blk_far ?_ NB166_177.out _; (with_reducible repeat (first | refine blk_drewN ?_ _ | refine blk_drew ?_ | refine blk_alloc ?_ _)); refine blk_far ?_ NB166_177.out _; (with_reducible repeat (first | refine blk_drewN ?_ _ | refine blk_drew ?_ | refine blk_alloc ?_ _)); refine blk_far ?_ NB166_177.out _; (with_reducible repeat (first | refine blk_drewN ?_ _ | refine blk_drew ?_ | refine blk_alloc ?_ _)); exact BK166.out) k_ hk, Kd.freshB (g := gb167) (o := .cells #[.int .i64 t169, .string t170, .slice Ao44 t171.length co44] 24 (0, 0)) (by (with_reducible repeat (first | refine blk_drewN ?_ _ | refine blk_drew ?_ | refine blk_alloc ?_ _)); refine blk_put (cs := #[.int .i64 t169, .string t170, .slice Ao37 x168002_1.length co37]) ?_ 2 _ rfl; (with_reducible repeat (first | refine blk_drewN ?_ _ | refine blk_drew ?_ | refine blk_alloc ?_ _)); refine blk_put (cs := #[.int .i64 t169, .string x168001_1, .slice Ao37 x168002_1.length co37]) ?_ 1 _ rfl; (with_reducible repeat (first | refine blk_drewN ?_ _ | refine blk_drew ?_ | refine blk_alloc ?_ _)); refine blk_put (cs := #[.int .i64 x168000_1, .string x168001_1, .slice Ao37 x168002_1.length co37]) ?_ 0 _ rfl; (with_reducible repeat (first | refine blk_drewN ?_ _ | refine blk_drew ?_ | refine blk_alloc ?_ _)); refine blk_far ?_ NB167_177.out _; (with_reducible repeat (first | refine blk_drewN ?_ _ | refine blk_drew ?_ | refine blk_alloc ?_ _)); refine blk_far ?_ NB167_177.out _; (with_reducible repeat (first | refine blk_drewN ?_ _ | refine blk_drew ?_ | refine blk_alloc ?_ _)); refine blk_far ?_ NB167_177.out _; (with_reducible repeat (first | refine blk_drewN ?_ _ | refine blk_drew ?_ | refine blk_alloc ?_ _)); exact BK167.out) k_ hk, Kd.freshB (g := gb177) (o := .cells #[.int .i64 t169, .string t170, .slice Ao44 t171.length co44] 24 (0, 0)) (by (with_reducible repeat (first | refine blk_drewN ?_ _ | refine blk_drew ?_ | refine blk_alloc ?_ _)); refine blk_far ?_ NB177_167.out _; (with_reducible repeat (first | refine blk_drewN ?_ _ | refine blk_drew ?_ | refine blk_alloc ?_ _)); refine blk_far ?_ NB177_167.out _; (with_reducible repeat (first | refine blk_drewN ?_ _ | refine blk_drew ?_ | refine blk_alloc ?_ _)); refine blk_far ?_ NB177_167.out _; (with_reducible repeat (first | refine blk_drewN ?_ _ | refine blk_drew ?_ | refine blk_alloc ?_ _)); refine blk_put (cs := #[.int .i64 t169, .string t170, .slice none 0 0]) ?_ 2 _ rfl; (with_reducible repeat (first | refine blk_drewN ?_ _ | refine blk_drew ?_ | refine blk_alloc ?_ _)); refine blk_put (cs := #[.int .i64 t169, .string (⟨#[]⟩ : ByteArray), .slice none 0 0]) ?_ 1 _ rfl; (with_reducible repeat (first | refine blk_drewN ?_ _ | refine blk_drew ?_ | refine blk_alloc ?_ _)); refine blk_put (cs := #[.int .i64 0, .string (⟨#[]⟩ : ByteArray), .slice none 0 0]) ?_ 0 _ rfl; (with_reducible repeat (first | refine blk_drewN ?_ _ | refine blk_drew ?_ | refine blk_alloc ?_ _)); exact BK177.out) k_ hk⟩)); (case aO => exact (Kd.pN (Kd.N_mono (Kd.N_far (p := ⟨gb167, 2, none⟩) (Kd.N_far (p := ⟨gb167, 1, none⟩) (Kd.N_far (p := ⟨gb167, 0, none⟩) (Kd.N_far (p := ⟨gb177, 2, none⟩) (Kd.N_far (p := ⟨gb177, 1, none⟩) (Kd.N_far (p := ⟨gb177, 0, none⟩) (Kd.N_mono (Kd.N_mono HO_5.out (fun k_ hk => (⟨hk, hk.2.2.2.2⟩ : _ ∧ k_ ≠ gb177))) (fun k_ hk => (⟨hk, hk.1.2.2.2.1⟩ : _ ∧ k_ ≠ gb167))) (fun _ hk => hk.1.2) (.int .i64 t169)) (fun _ hk => hk.1.2) (.string t170)) (fun _ hk => hk.1.2) (.slice Ao44 t171.length co44)) (fun _ hk => hk.2) (.int .i64 t169)) (fun _ hk => hk.2) (.string t170)) (fun _ hk => hk.2) (.slice Ao44 t171.length co44)) (fun _ hk => ⟨hk.1.1.1, ⟨hk.1.1.2.2.1, ⟨hk.1.1.2.2.2.1, hk.1.1.2.2.2.2⟩⟩⟩)))); (case aS => exact (below_size (by repeat (first | (with_reducible first | exact HB.out | apply below_alloc | apply pw_below_drewN | apply below_drew1 | refine below_set ?_ GE166.out | refine below_set ?_ GE167.out | refine below_set ?_ GE177.out) | exact HB.out)))); (case aL => have := LMc9.out; omega); intro v179 w51 ho hb hg hat; rw [← Ny178.out] at ho; have n0_ := Aside0.mk (Kd.V_afterv (ok := (fun k_ => (w.heap.size ≤ k_) ∧ some k_ ≠ (.slice Ao52 t174.length co52 : Value).ownBlock ∧ k_ ≠ gb166 ∧ k_ ≠ gb167 ∧ k_ ≠ gb177)) (Kd.pV (Kd.V_mono (Kd.V_far (p := ⟨gb167, 2, none⟩) (Kd.V_far (p := ⟨gb167, 1, none⟩) (Kd.V_far (p := ⟨gb167, 0, none⟩) (Kd.V_far (p := ⟨gb177, 2, none⟩) (Kd.V_far (p := ⟨gb177, 1, none⟩) (Kd.V_far (p := ⟨gb177, 0, none⟩) (Kd.V_mono (Kd.V_mono HO_168002.out (fun k_ hk => (⟨hk, hk.2.2.2.2.2⟩ : _ ∧ k_ ≠ gb177))) (fun k_ hk => (⟨hk, hk.1.2.2.2.2.1⟩ : _ ∧ k_ ≠ gb167))) (fun _ hk => hk.1.2) (.int .i64 t169)) (fun _ hk => hk.1.2) (.string t170)) (fun _ hk => hk.1.2) (.slice Ao44 t171.length co44)) (fun _ hk => hk.2) (.int .i64 t169)) (fun _ hk => hk.2) (.string t170)) (fun _ hk => hk.2) (.slice Ao44 t171.length co44)) (fun _ hk => ⟨⟨hk.1.1.1, ⟨hk.1.1.2.1, ⟨hk.1.1.2.2.2.1, ⟨hk.1.1.2.2.2.2.1, hk.1.1.2.2.2.2.2⟩⟩⟩⟩, hk.1.1.2.2.1⟩))) hg hat); have n1_ := Aside0.mk (blk_grown (g := gb166) (o := .cells #[.int .i64 0, .string (⟨#[]⟩ : ByteArray), .slice none 0 0] 24 (0, 0)) (by (with_reducible repeat (first | refine blk_drewN ?_ _ | refine blk_drew ?_ | refine blk_alloc ?_ _)); refine blk_far ?_ NB166_167.out _; (with_reducible repeat (first | refine blk_drewN ?_ _ | refine blk_drew ?_ | refine blk_alloc ?_ _)); refine blk_far ?_ NB166_167.out _; (with_reducible repeat (first | refine blk_drewN ?_ _ | refine blk_drew ?_ | refine blk_alloc ?_ _)); refine blk_far ?_ NB166_167.out _; (with_reducible repeat (first | refine blk_drewN ?_ _ | refine blk_drew ?_ | refine blk_alloc ?_ _)); refine blk_far ?_ NB166_177.out _; (with_reducible repeat (first | refine blk_drewN ?_ _ | refine blk_drew ?_ | refine blk_alloc ?_ _)); refine blk_far ?_ NB166_177.out _; (with_reducible repeat (first | refine blk_drewN ?_ _ | refine blk_drew ?_ | refine blk_alloc ?_ _)); refine blk_far ?_ NB166_177.out _; (with_reducible repeat (first | refine blk_drewN ?_ _ | refine blk_drew ?_ | refine blk_alloc ?_ _)); exact BK166.out) hg (Kd.N_ne HO_5.out BK166.out (by decide))); have n2_ := Aside0.mk (blk_grown (g := gb167) (o := .cells #[.int .i64 t169, .string t170, .slice Ao44 t171.length co44] 24 (0, 0)) (by (with_reducible repeat (first | refine blk_drewN ?_ _ | refine blk_drew ?_ | refine blk_alloc ?_ _)); refine blk_put (cs := #[.int .i64 t169, .string t170, .slice Ao37 x168002_1.length co37]) ?_ 2 _ rfl; (with_reducible repeat (first | refine blk_drewN ?_ _ | refine blk_drew ?_ | refine blk_alloc ?_ _)); refine blk_put (cs := #[.int .i64 t169, .string x168001_1, .slice Ao37 x168002_1.length co37]) ?_ 1 _ rfl; (with_reducible repeat (first | refine blk_drewN ?_ _ | refine blk_drew ?_ | refine blk_alloc ?_ _)); refine blk_put (cs := #[.int .i64 x168000_1, .string x168001_1, .slice Ao37 x168002_1.length co37]) ?_ 0 _ rfl; (with_reducible repeat (first | refine blk_drewN ?_ _ | refine blk_drew ?_ | refine blk_alloc ?_ _)); refine blk_far ?_ NB167_177.out _; (with_reducible repeat (first | refine blk_drewN ?_ _ | refine blk_drew ?_ | refine blk_alloc ?_ _)); refine blk_far ?_ NB167_177.out _; (with_reducible repeat (first | refine blk_drewN ?_ _ | refine blk_drew ?_ | refine blk_alloc ?_ _)); refine blk_far ?_ NB167_177.out _; (with_reducible repeat (first | refine blk_drewN ?_ _ | refine blk_drew ?_ | refine blk_alloc ?_ _)); exact BK167.out) hg (Kd.N_ne HO_5.out BK167.out (by decide))); have n3_ := Aside0.mk (Kd.V_afterv (ok := (fun k_ => (w.heap.size ≤ k_) ∧ some k_ ≠ (.slice Ao52 t174.length co52 : Value).ownBlock ∧ k_ ≠ gb166 ∧ k_ ≠ gb167 ∧ k_ ≠ gb177)) (Kd.pV (Kd.V_mono (Kd.V_far (p := ⟨gb167, 2, none⟩) (Kd.V_far (p := ⟨gb167, 1, none⟩) (Kd.V_far (p := ⟨gb167, 0, none⟩) (Kd.V_far (p := ⟨gb177, 2, none⟩) (Kd.V_far (p := ⟨gb177, 1, none⟩) (Kd.V_far (p := ⟨gb177, 0, none⟩) (Kd.V_mono (Kd.V_mono HO173.out (fun k_ hk => (⟨hk, hk.2.2.2.2.2⟩ : _ ∧ k_ ≠ gb177))) (fun k_ hk => (⟨hk, hk.1.2.2.2.2.1⟩ : _ ∧ k_ ≠ gb167))) (fun _ hk => hk.1.2) (.int .i64 t169)) (fun _ hk => hk.1.2) (.string t170)) (fun _ hk => hk.1.2) (.slice Ao44 t171.length co44)) (fun _ hk => hk.2) (.int .i64 t169)) (fun _ hk => hk.2) (.string t170)) (fun _ hk => hk.2) (.slice Ao44 t171.length co44)) (fun _ hk => ⟨⟨hk.1.1.1, ⟨hk.1.1.2.1, ⟨hk.1.1.2.2.2.1, ⟨hk.1.1.2.2.2.2.1, hk.1.1.2.2.2.2.2⟩⟩⟩⟩, hk.1.1.2.2.1⟩))) hg hat); have n4_ := Aside0.mk (Kd.N_afterv (ok := (fun k_ => (w.heap.size ≤ k_) ∧ k_ ≠ gb166 ∧ k_ ≠ gb167 ∧ k_ ≠ gb177)) (Kd.pN (Kd.N_mono (Kd.N_far (p := ⟨gb167, 2, none⟩) (Kd.N_far (p := ⟨gb167, 1, none⟩) (Kd.N_far (p := ⟨gb167, 0, none⟩) (Kd.N_far (p := ⟨gb177, 2, none⟩) (Kd.N_far (p := ⟨gb177, 1, none⟩) (Kd.N_far (p := ⟨gb177, 0, none⟩) (Kd.N_mono (Kd.N_mono HO176.out (fun k_ hk => (⟨hk, hk.2.2.2.2⟩ : _ ∧ k_ ≠ gb177))) (fun k_ hk => (⟨hk, hk.1.2.2.2.1⟩ : _ ∧ k_ ≠ gb167))) (fun _ hk => hk.1.2) (.int .i64 t169)) (fun _ hk => hk.1.2) (.string t170)) (fun _ hk => hk.1.2) (.slice Ao44 t171.length co44)) (fun _ hk => hk.2) (.int .i64 t169)) (fun _ hk => hk.2) (.string t170)) (fun _ hk => hk.2) (.slice Ao44 t171.length co44)) (fun _ hk => ⟨⟨hk.1.1.1, ⟨hk.1.1.2.2.1, ⟨hk.1.1.2.2.2.1, hk.1.1.2.2.2.2⟩⟩⟩, hk.1.1.2.1⟩))) hg hat); have n5_ := Aside0.mk (blk_grown (g := gb177) (o := .cells #[.int .i64 t169, .string t170, .slice Ao44 t171.length co44] 24 (0, 0)) (by (with_reducible repeat (first | refine blk_drewN ?_ _ | refine blk_drew ?_ | refine blk_alloc ?_ _)); refine blk_far ?_ NB177_167.out _; (with_reducible repeat (first | refine blk_drewN ?_ _ | refine blk_drew ?_ | refine blk_alloc ?_ _)); refine blk_far ?_ NB177_167.out _; (with_reducible repeat (first | refine blk_drewN ?_ _ | refine blk_drew ?_ | refine blk_alloc ?_ _)); refine blk_far ?_ NB177_167.out _; (with_reducible repeat (first | refine blk_drewN ?_ _ | refine blk_drew ?_ | refine blk_alloc ?_ _)); refine blk_put (cs := #[.int .i64 t169, .string t170, .slice none 0 0]) ?_ 2 _ rfl; (with_reducible repeat (first | refine blk_drewN ?_ _ | refine blk_drew ?_ | refine blk_alloc ?_ _)); refine blk_put (cs := #[.int .i64 t169, .string (⟨#[]⟩ : ByteArray), .slice none 0 0]) ?_ 1 _ rfl; (with_reducible repeat (first | refine blk_drewN ?_ _ | refine blk_drew ?_ | refine blk_alloc ?_ _)); refine blk_put (cs := #[.int .i64 0, .string (⟨#[]⟩ : ByteArray), .slice none 0 0]) ?_ 0 _ rfl; (with_reducible repeat (first | refine blk_drewN ?_ _ | refine blk_drew ?_ | refine blk_alloc ?_ _)); exact BK177.out) hg (Kd.N_ne HO_5.out BK177.out (by decide))); have n6_ := Aside0.mk (hb); have n7_ := Aside0.mk (ho); clear HO_168002; clear BK166; clear BK167; clear HO173; clear HO176; clear BK177; clear HB; clear HO_5; have HO_168002 := n0_; have BK166 := n1_; have BK167 := n2_; have HO173 := n3_; have HO176 := n4_; have BK177 := n5_; have HB := n6_; have HO180 := n7_; clear n0_ n1_ n2_ n3_ n4_ n5_ n6_ n7_; clear ho hb hg hat; have p181 : 0 ≤ (x6_1 : Int) := of_decide_eq_true (by first | (with_reducible assumption) | assumption); have q181 : x6_1 < (l0.length : Int) := of_decide_eq_true (by first | (with_reducible assumption) | assumption); obtain ⟨ad181, A181_0, c181_0, e181, hx181_0, hx181_1, hl181_0, hi181_0⟩ := at_T42 HR0.out x6_1 p181 q181; (try rw [← Nbq10.out] at hx181_1); obtain rfl : ad168 = ad181 := (by injection e181); replace hx181_0 := (HB.out.cell (World.block_lt_of_cell? w _ hx181_0)).trans hx181_0; replace hx181_1 := (HB.out.cell (World.block_lt_of_cell? w _ hx181_1)).trans hx181_1; have HR181_0 := Aside0.mk hi181_0; have HC181_0 := Aside0.mk hl181_0; clear hi181_0 hl181_0; replace p181 := eq_true p181; replace q181 := eq_true q181))
       go_roundg k1
       case measure => have := HK1.out; omega
       case rel => exact ⟨(y178), (wrap64 (x6_1 + 1)), (t169), (t170), (t171), (.slice Ao44 t171.length co44), (by first | rfl | (simp; done) | (simp [*]; done)), H', ⟨by have := HK1.out; omega⟩, ⟨by (with_reducible repeat (first | apply Kd.N_alloc | apply Kd.N_drewN | apply Kd.N_drew)); exact Kd.N_mono HO180.out (fun _ hk => ⟨hk.1, ⟨hk.2.1, hk.2.2.1⟩⟩)⟩, ⟨by (with_reducible repeat (first | apply Kd.V_alloc | apply Kd.V_drewN | apply Kd.V_drew)); exact Kd.V_mono HO173.out (fun _ hk => ⟨hk.1.1, ⟨hk.2, ⟨hk.1.2.2.1, hk.1.2.2.2.1⟩⟩⟩)⟩, ⟨by (with_reducible repeat (first | refine blk_drewN ?_ _ | refine blk_drew ?_ | refine blk_alloc ?_ _)); exact BK166.out⟩, ⟨by (with_reducible repeat (first | refine blk_drewN ?_ _ | refine blk_drew ?_ | refine blk_alloc ?_ _)); exact BK167.out⟩, ⟨by repeat (first | (with_reducible first | exact HB.out | apply below_alloc | apply pw_below_drewN | apply below_drew1 | refine below_set ?_ GE166.out | refine below_set ?_ GE167.out | refine below_set ?_ GE177.out) | exact HB.out)⟩⟩
     ·
      rw [if_neg c9] at H
      exact absurd H (by simp)
    ·
     rw [if_neg c7] at H
     exact absurd H (by simp)
   ·
    rw [if_neg c6] at H
    have c6b0 : decide (x6_1 < (l0.length : Int)) = false := decide_eq_false c6
    clear c6
    simp only [Option.some.injEq, Prod.mk.injEq] at H
    obtain ⟨rfl, rfl, rfl, rfl⟩ := H
    try go_wp2
    have n0_ := Aside0.mk (Kd.N_drew HO_5.out)
    have n1_ := Aside0.mk (Kd.V_drew HO_168002.out)
    have n2_ := Aside0.mk (blk_drew BK166.out)
    have n3_ := Aside0.mk (blk_drew BK167.out)
    have n4_ := Aside0.mk (below_drew1 HB.out)
    clear HO_5
    clear HO_168002
    clear BK166
    clear BK167
    clear HB
    have HO_5 := n0_
    have HO_168002 := n1_
    have BK166 := n2_
    have BK167 := n3_
    have HB := n4_
    clear n0_ n1_ n2_ n3_ n4_
    obtain ⟨Ao56, co56, eo56⟩ := Kd.V_slice HO_168002.out
    (first | subst eo56 | (injection eo56 with f1_ f2_ f3_; have f4_ := f1_.symm; have f5_ := f3_.symm; clear f1_ f2_ f3_; subst f4_; subst f5_))
    refine start_ (n := 4) (S := fun w' => w'.cell? ⟨gb167, 0, none⟩ = some (.int .i64 x168000_1) ∧ w'.cell? ⟨gb167, 1, none⟩ = some (.string x168001_1) ∧ w'.cell? ⟨gb167, 2, none⟩ = some (.slice Ao56 x168002_1.length co56)) (ds := []) #[false, false, false, false] (by kernel_rfl) rfl rfl ⟨(blk_cell BK167.out 0).trans rfl, (blk_cell BK167.out 1).trans rfl, (blk_cell BK167.out 2).trans rfl⟩ (fun hHeld => ?_)
    generalize wr.drew = w53 at HO_5 HO_168002 BK166 BK167 HB hHeld ⊢
    refine pure_ (i := 0) (N := some 44) (v := ?_) (a' := ?_) #[true, false, false, false] rfl rfl (by kernel_rfl) (fun _ _ _ h => h) (Or.inl ⟨by rfl, ?_⟩) ?_ ?_
    rotate_left
    ·
     intro w'
     go_simp
     with_reducible rfl
    rotate_left
    ·
     simp only [Act.put, List.setIfInBounds_toArray, List.set_cons_zero, List.set_cons_succ, i64_w, i32_w]
     rfl
    refine pure_ (i := 2) (N := some 2) (v := ?_) (a' := ?_) #[true, false, true, false] rfl rfl (by kernel_rfl) (fun _ _ _ h => h) (Or.inl ⟨by rfl, ?_⟩) ?_ ?_
    rotate_left
    ·
     intro w'
     go_simp
     with_reducible rfl
    rotate_left
    ·
     simp only [Act.put, List.setIfInBounds_toArray, List.set_cons_zero, List.set_cons_succ, i64_w, i32_w]
     rfl
    refine take_ (i := 1) (N := some 45) (v := ?_) (a' := ?_) #[true, true, true, false] rfl rfl (by kernel_rfl) (fun _ _ _ h => h) (Or.inl ⟨by rfl, ?_⟩) hHeld ?_ ?_
    rotate_left
    ·
     rintro w' ⟨s0, s1, s2⟩
     go_simp
     with_reducible rfl
    rotate_left
    ·
     simp only [Act.put, List.setIfInBounds_toArray, List.set_cons_zero, List.set_cons_succ, i64_w, i32_w]
     rfl
    refine one_ (i := 3) (N := none) #[true, true, true, true] rfl rfl (by kernel_rfl) (by decide) (fun K hK => ?_)
    have hs54 : w53.cell? ⟨gb166, 0, none⟩ = some (.int .i64 0) := (blk_cell BK166.out 0).trans rfl
    have hfs54 := blk_frozen BK166.out 0
    have hns54_1 := NB167_166.out
    have hms54_1 := NB166_167.out
    have hs55 : w53.cell? ⟨gb166, 1, none⟩ = some (.string (⟨#[]⟩ : ByteArray)) := (blk_cell BK166.out 1).trans rfl
    have hfs55 := blk_frozen BK166.out 1
    have hns55_1 := NB167_166.out
    have hms55_1 := NB166_167.out
    have hs57 : w53.cell? ⟨gb166, 2, none⟩ = some (.slice none 0 0) := (blk_cell BK166.out 2).trans rfl
    have hfs57 := blk_frozen BK166.out 2
    have hns57_1 := NB167_166.out
    have hms57_1 := NB166_167.out
    refine skip_ (w1 := ?_) (by rfl) rfl ?_ ?_
    rotate_left
    ·
     go_simp
     rfl
    refine hK.out _ _ ⟨((cell_far (p := ⟨gb166, _, none⟩) NB167_166.out _).trans (((cell_far (p := ⟨gb166, _, none⟩) NB167_166.out _).trans (((cell_far (p := ⟨gb166, _, none⟩) NB167_166.out _).trans (hHeld.1)))))), ((cell_far (p := ⟨gb166, _, none⟩) NB167_166.out _).trans (((cell_far (p := ⟨gb166, _, none⟩) NB167_166.out _).trans (((cell_far (p := ⟨gb166, _, none⟩) NB167_166.out _).trans (hHeld.2.1)))))), ((cell_far (p := ⟨gb166, _, none⟩) NB167_166.out _).trans (((cell_far (p := ⟨gb166, _, none⟩) NB167_166.out _).trans (((cell_far (p := ⟨gb166, _, none⟩) NB167_166.out _).trans (hHeld.2.2))))))⟩ (fun hHeld => ?_)
    clear hK K
    refine done_ (by kernel_rfl) ?_
    try go_wp2
    refine bodyPost_ret (results_tc rfl _ _ gb166 24 #[.int .i64 x168000_1, .string x168001_1, .slice Ao56 x168002_1.length co56] (0, 0) _ rfl (by (with_reducible repeat (first | refine blk_drewN ?_ _ | refine blk_drew ?_ | refine blk_alloc ?_ _)); refine blk_put (cs := #[.int .i64 x168000_1, .string x168001_1, .slice none 0 0]) ?_ 2 _ rfl; (with_reducible repeat (first | refine blk_drewN ?_ _ | refine blk_drew ?_ | refine blk_alloc ?_ _)); refine blk_put (cs := #[.int .i64 x168000_1, .string (⟨#[]⟩ : ByteArray), .slice none 0 0]) ?_ 1 _ rfl; (with_reducible repeat (first | refine blk_drewN ?_ _ | refine blk_drew ?_ | refine blk_alloc ?_ _)); refine blk_put (cs := #[.int .i64 0, .string (⟨#[]⟩ : ByteArray), .slice none 0 0]) ?_ 0 _ rfl; (with_reducible repeat (first | refine blk_drewN ?_ _ | refine blk_drew ?_ | refine blk_alloc ?_ _)); exact BK166.out) Try.underlying24 rfl (by kernel_rfl)) rfl ?_
    exact ⟨_, _, by first | rfl | (simp [errW_none, errW_some] <;> rfl) | (simp [*, errW_none, errW_some] <;> rfl), by (with_reducible repeat (first | apply Kd.N_alloc | apply Kd.N_drewN | apply Kd.N_drew)); exact Kd.N_mono (Kd.N_far (p := ⟨gb166, 2, none⟩) (Kd.N_far (p := ⟨gb166, 1, none⟩) (Kd.N_far (p := ⟨gb166, 0, none⟩) (Kd.N_mono HO_5.out (fun k_ hk => (⟨hk, hk.2.1⟩ : _ ∧ k_ ≠ gb166))) (fun _ hk => hk.2) (.int .i64 x168000_1)) (fun _ hk => hk.2) (.string x168001_1)) (fun _ hk => hk.2) (.slice Ao56 x168002_1.length co56)) (fun _ hk => hk.1.1), by (with_reducible repeat (first | apply Kd.V_alloc | apply Kd.V_drewN | apply Kd.V_drew)); exact Kd.V_mono (Kd.V_far (p := ⟨gb166, 2, none⟩) (Kd.V_far (p := ⟨gb166, 1, none⟩) (Kd.V_far (p := ⟨gb166, 0, none⟩) (Kd.V_mono HO_168002.out (fun k_ hk => (⟨hk, hk.2.2.1⟩ : _ ∧ k_ ≠ gb166))) (fun _ hk => hk.2) (.int .i64 x168000_1)) (fun _ hk => hk.2) (.string x168001_1)) (fun _ hk => hk.2) (.slice Ao56 x168002_1.length co56)) (fun _ hk => ⟨hk.1.1, hk.1.2.1⟩), by repeat (first | (with_reducible first | exact HB.out | apply below_alloc | apply pw_below_drewN | apply below_drew1 | refine below_set ?_ GE166.out | refine below_set ?_ GE167.out) | exact HB.out)⟩

end Go.Proofs.Ytiknkkkfkifahaa.PCutPrefix
