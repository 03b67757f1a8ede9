-- written by a program of this session (pp.py), out of the kit's print and this session's contracts
import Derived.Test.YtefdokolbdnjnaaPCutAllx0
import Derived.Test.YtefdokolbdnjnaaPCutAllx1
namespace Go.Proofs.Ytefdokolbdnjnaa.PCutAll
open Go.RowKit Go.Proofs.YtefdokolbdnjnaaW.PrintWords Go.Proofs.YtefdokolbdnjnaaW.PrintLast Go.Proofs.YtefdokolbdnjnaaW.PrintMore
attribute [local go_sem] max2_int min2_int max_two min_two max_three min_three max_four min_four   -- for this text's walks alone
set_option linter.unusedVariables false
set_option linter.unusedSimpArgs false

/-! ### selvedgelaw15_runs: function 48 -/
def selvedgelaw15_runs.l0 : Nat → List (S56) → List (S40) → Int → Int → ByteArray → List ByteArray → Option ((List (S40)) × Int × ByteArray × List ByteArray)
  | 0, _, _, _, _, _, _ => none
  | k + 1, x0, x5, x6, x159000, x159001, x159002 => if x6 < (x0.length : Int) then (if 0 ≤ x6 then ((cut_Feed.f k x159000 x159001 x159002 ((rd_T56 x0 x6).f0)).bind fun bt160 => (if x5.length + bt160.2.2.2.length < 2932031007402 then ((some (x5 ++ bt160.2.2.2 : List (S40))).bind fun y169 => (if (rd_T56 x0 x6).f1 = true then ((cut_Flush.f bt160.1 bt160.2.1 bt160.2.2.1).bind fun bt173 => (if y169.length + bt173.2.2.2.length < 2932031007402 then (selvedgelaw15_runs.l0 k x0 (y169 ++ bt173.2.2.2) (wrap64 (x6 + 1)) bt173.1 bt173.2.1 bt173.2.2.1) else (none))) else (selvedgelaw15_runs.l0 k x0 y169 (wrap64 (x6 + 1)) bt160.1 bt160.2.1 bt160.2.2.1))) else (none))) else (none)) else (some (x5, x159000, x159001, x159002))
def selvedgelaw15_runs.f (k : Nat) (l0 : List (S56)) : Option ((List (S40)) × Int × ByteArray × List ByteArray) := selvedgelaw15_runs.l0 k l0 ([] : List (S40)) 0 0 (⟨#[]⟩ : ByteArray) ([] : List ByteArray)
theorem selvedgelaw15_runs.mono_l : ∀ k, (∀ y0 y1 y2 y3 y4 y5, LeO (selvedgelaw15_runs.l0 k y0 y1 y2 y3 y4 y5) (selvedgelaw15_runs.l0 (k + 1) y0 y1 y2 y3 y4 y5))
  | 0 => fun _ _ _ _ _ _ r h => by simp [selvedgelaw15_runs.l0] at h
  | k + 1 => by
    have ih0 := selvedgelaw15_runs.mono_l k
    · intro y0 y1 y2 y3 y4 y5
      unfold selvedgelaw15_runs.l0
      repeat' first
      | (with_reducible exact ih0 _ _ _ _ _ _)
      | (with_reducible exact cut_Feed.mono _ _ _ _ _)
      | (with_reducible exact LeO.refl _)
      | (with_reducible exact LeO.none _)
      | (with_reducible refine LeO.ite ?_ ?_)
      | (with_reducible refine LeO.bind ?_ (fun _ => ?_))
      | exact ih0 _ _ _ _ _ _
      | exact cut_Feed.mono _ _ _ _ _
      | exact LeO.none _
      | refine LeO.ite ?_ ?_
      | refine LeO.bind ?_ (fun _ => ?_)
theorem selvedgelaw15_runs.mono : ∀ a0 k, LeO (selvedgelaw15_runs.f k a0) (selvedgelaw15_runs.f (k + 1) a0) := by
  intro a0 k
  have ih0 := selvedgelaw15_runs.mono_l k
  unfold selvedgelaw15_runs.f
  repeat' first
      | (with_reducible exact ih0 _ _ _ _ _ _)
      | (with_reducible exact cut_Feed.mono _ _ _ _ _)
      | (with_reducible exact LeO.refl _)
      | (with_reducible exact LeO.none _)
      | (with_reducible refine LeO.ite ?_ ?_)
      | (with_reducible refine LeO.bind ?_ (fun _ => ?_))
      | exact ih0 _ _ _ _ _ _
      | exact cut_Feed.mono _ _ _ _ _
      | exact LeO.none _
      | refine LeO.ite ?_ ?_
      | refine LeO.bind ?_ (fun _ => ?_)
def selvedgelaw15_runs.T6 : Bool × List (List Nat × List Nat) := (true, [([], []), ([], []), ([], []), ([1, 2], [1, 2]), ([3], [3]), ([4], [4]), ([0, 5], [0, 5]), ([6], [6]), ([7], [7]), ([7], [7]), ([], []), ([10, 8, 6, 0, 1, 2, 3, 4, 5, 6, 7, 8, 10], [8, 10]), ([9, 11, 0, 1, 2, 3, 4, 5, 6, 7, 8, 9, 10, 11], [9])])
def selvedgelaw15_runs.B6 : List Nat := [0, 0, 0, 6, 14, 30, 63, 127, 255, 255, 0, 1535, 4095]
theorem selvedgelaw15_runs.tab6 : rtab .any (opsOf Try.f48 6) = selvedgelaw15_runs.T6 := by kernel_rfl
theorem selvedgelaw15_runs.bits6 : waitsOk selvedgelaw15_runs.T6.2 selvedgelaw15_runs.B6 = true := by kernel_rfl
set_option maxHeartbeats 8000000 in
set_option maxRecDepth 100000 in
theorem selvedgelaw15_runs.calls (k : Nat) (A0 : Option Addr) (c0 : Nat) (l0 : List (S56)) (r1 : List (S40)) (r2 : Int) (r3 : ByteArray) (r4 : List ByteArray) (w : World) (hr0 : Kd.C k56 w A0 l0.length l0) (hc0 : l0.length ≤ c0) (h : selvedgelaw15_runs.f k l0 = some (r1, r2, r3, r4)) :
    Calls Try.prog 48 #[.slice A0 l0.length c0] w fun e w' => ∃ v0_ v3_ : Value, e = .returned (.tuple #[v0_, .agg #[.int .i64 r2, .string r3, v3_]]) ∧ Kd.N k40 40 w' w.heap.size (fun k_ => (w.heap.size ≤ k_)) v0_ r1 ∧ Kd.V Kd.string 9 w' w.heap.size (fun k_ => (w.heap.size ≤ k_) ∧ some k_ ≠ (v0_ : Value).ownBlock) v3_ r4 ∧ Below w.heap.size w w' := by
  have hu39 := Try.underlying39
  have HR0 := Aside0.mk hr0
  have HC0 := Aside0.mk hc0
  clear hr0 hc0
  have HB := Aside0.mk (Below.refl w.heap.size w)
  have H : (selvedgelaw15_runs.l0 k l0 ([] : List (S40)) 0 0 (⟨#[]⟩ : ByteArray) ([] : List ByteArray)) = some (r1, r2, r3, r4) := h
  clear h
  have H' := Aside0.mk H
  clear H
  go_enter Try.func48, Try.ntmps48
  go_wp2_with (first | ((with_reducible refine gate_dst (N := 3) rfl ?_); refine box_event ?hg (N := 3) ?hd (cs := #[.int .i64 0, .string (⟨#[]⟩ : ByteArray), .slice none 0 0]) (t := 39) ?hr ?_; (case hd => rfl); (case hg => rfl); (case hr => first | (go_simp; done) | (go_simp; rfl)); intro gb157 hg w2 hbox hb; have n0_ := Aside0.mk (below_step (by repeat (first | (with_reducible first | exact HB.out | apply below_alloc | apply pw_below_drewN | apply below_drew1) | exact HB.out)) hb); have n1_ := Aside0.mk (hbox); have n2_ := Aside0.mk ((by rw [hg]; exact (below_size (by repeat (first | (with_reducible first | exact HB.out | apply below_alloc | apply pw_below_drewN | apply below_drew1) | exact HB.out))) : w.heap.size ≤ gb157)); have n3_ := Aside0.mk ((by rw [hg]; exact (below_size (by repeat (first | (with_reducible first | exact HB.out | apply below_alloc | apply pw_below_drewN | apply below_drew1) | exact HB.out))) : w.heap.size ≤ gb157)); clear HB; have HB := n0_; have BK157 := n1_; have GW157 := n2_; have GE157 := n3_; clear n0_ n1_ n2_ n3_; clear hb hbox hg) | ((with_reducible refine gate_dst (N := 4) rfl ?_); refine box_event ?hg (N := 4) ?hd (cs := #[.int .i64 0, .string (⟨#[]⟩ : ByteArray), .slice none 0 0]) (t := 39) ?hr ?_; (case hd => rfl); (case hg => rfl); (case hr => first | (go_simp; done) | (go_simp; rfl)); intro gb158 hg w3 hbox hb; have n0_ := Aside0.mk (blk_below (g := gb157) (o := .cells #[.int .i64 0, .string (⟨#[]⟩ : ByteArray), .slice none 0 0] 39 (0, 0)) (by (with_reducible repeat (first | refine blk_drewN ?_ _ | refine blk_drew ?_ | refine blk_alloc ?_ _)); exact BK157.out) hb); have n1_ := Aside0.mk (below_step (by repeat (first | (with_reducible first | exact HB.out | apply below_alloc | apply pw_below_drewN | apply below_drew1 | refine below_set ?_ GE157.out) | exact HB.out)) hb); have n2_ := Aside0.mk (hbox); have n3_ := Aside0.mk ((by rw [hg]; exact (below_size (by repeat (first | (with_reducible first | exact HB.out | apply below_alloc | apply pw_below_drewN | apply below_drew1 | refine below_set ?_ GE157.out) | exact HB.out))) : w.heap.size ≤ gb158)); have n4_ := Aside0.mk ((by rw [hg]; exact (below_size (by repeat (first | (with_reducible first | exact HB.out | apply below_alloc | apply pw_below_drewN | apply below_drew1 | refine below_set ?_ GE157.out) | exact HB.out))) : w.heap.size ≤ gb158)); have n5_ := Aside0.mk ((by rw [hg]; exact Nat.ne_of_lt (blk_lt (g := gb157) (o := .cells #[.int .i64 0, .string (⟨#[]⟩ : ByteArray), .slice none 0 0] 39 (0, 0)) (by (with_reducible repeat (first | refine blk_drewN ?_ _ | refine blk_drew ?_ | refine blk_alloc ?_ _)); exact BK157.out)) : gb157 ≠ gb158)); have n6_ := Aside0.mk ((by rw [hg]; exact Nat.ne_of_gt (blk_lt (g := gb157) (o := .cells #[.int .i64 0, .string (⟨#[]⟩ : ByteArray), .slice none 0 0] 39 (0, 0)) (by (with_reducible repeat (first | refine blk_drewN ?_ _ | refine blk_drew ?_ | refine blk_alloc ?_ _)); exact BK157.out)) : gb158 ≠ gb157)); clear BK157; clear HB; have BK157 := n0_; have HB := n1_; have BK158 := n2_; have GW158 := n3_; have GE158 := n4_; have NB157_158 := n5_; have NB158_157 := n6_; clear n0_ n1_ n2_ n3_ n4_ n5_ n6_; clear hb hbox hg; have hnb4 := NB158_157.out; have hnc4 := NB157_158.out; have hcz5_0 : w3.cell? ⟨gb158, 0, none⟩ = some (.int .i64 0) := (blk_cell BK158.out 0).trans rfl; have hcz5_1 : w3.cell? ⟨gb158, 1, none⟩ = some (.string (⟨#[]⟩ : ByteArray)) := (blk_cell BK158.out 1).trans rfl; have hcz5_2 : w3.cell? ⟨gb158, 2, none⟩ = some (.slice none 0 0) := (blk_cell BK158.out 2).trans rfl; have hfz5_0 := blk_frozen BK158.out 0; have hfz5_1 := blk_frozen BK158.out 1; have hfz5_2 := blk_frozen BK158.out 2))
  go_loopg [5, 6] k (fun kq v5 v6 w' => ∃ (x5_1 : List (S40)) (x6_1 : Int) (x159000_1 : Int) (x159001_1 : ByteArray) (x159002_1 : List ByteArray) (u159002 : Value), v6 = .int .i64 x6_1 ∧ Aside0 (selvedgelaw15_runs.l0 kq l0 x5_1 x6_1 x159000_1 x159001_1 x159002_1 = some (r1, r2, r3, r4)) ∧ Aside0 (kq ≤ k) ∧ Aside0 (Kd.N k40 40 w' w.heap.size (fun k_ => (w.heap.size ≤ k_) ∧ k_ ≠ gb157 ∧ k_ ≠ gb158) v5 x5_1) ∧ Aside0 (Kd.V Kd.string 9 w' w.heap.size (fun k_ => (w.heap.size ≤ k_) ∧ some k_ ≠ (v5 : Value).ownBlock ∧ k_ ≠ gb157 ∧ k_ ≠ gb158) u159002 x159002_1) ∧ Aside0 (w'.heap[gb157]? = some (.cells #[.int .i64 0, .string (⟨#[]⟩ : ByteArray), (.slice none 0 0)] 39 (0, 0))) ∧ Aside0 (w'.heap[gb158]? = some (.cells #[.int .i64 x159000_1, .string x159001_1, u159002] 39 (0, 0))) ∧ Aside0 (Below w.heap.size w w'))
  case atStart => exact ⟨(([] : List (S40))), (0), (0), ((⟨#[]⟩ : ByteArray)), (([] : List ByteArray)), (.slice none 0 0), (by first | rfl | (simp; done) | (simp [*]; done)), H', ⟨Nat.le_refl _⟩, ⟨by first | exact Kd.S_nil _ _ _ _ _ | exact Kd.N_nil _ _ _ _ _ | exact Kd.V_nil _ _ _ _ _ | exact Kd.Q_nil _ _ _ _ _ | exact Kd.R_nil _ _ _ _ _⟩, ⟨Kd.V_nil _ _ _ _ _⟩, ⟨by (with_reducible repeat (first | refine blk_drewN ?_ _ | refine blk_drew ?_ | refine blk_alloc ?_ _)); refine blk_far ?_ NB157_158.out _; (with_reducible repeat (first | refine blk_drewN ?_ _ | refine blk_drew ?_ | refine blk_alloc ?_ _)); refine blk_far ?_ NB157_158.out _; (with_reducible repeat (first | refine blk_drewN ?_ _ | refine blk_drew ?_ | refine blk_alloc ?_ _)); refine blk_far ?_ NB157_158.out _; (with_reducible repeat (first | refine blk_drewN ?_ _ | refine blk_drew ?_ | refine blk_alloc ?_ _)); exact BK157.out⟩, ⟨by (with_reducible repeat (first | refine blk_drewN ?_ _ | refine blk_drew ?_ | refine blk_alloc ?_ _)); refine blk_put (cs := #[.int .i64 0, .string (⟨#[]⟩ : ByteArray), .slice none 0 0]) ?_ 2 _ rfl; (with_reducible repeat (first | refine blk_drewN ?_ _ | refine blk_drew ?_ | refine blk_alloc ?_ _)); refine blk_put (cs := #[.int .i64 0, .string (⟨#[]⟩ : ByteArray), .slice none 0 0]) ?_ 1 _ rfl; (with_reducible repeat (first | refine blk_drewN ?_ _ | refine blk_drew ?_ | refine blk_alloc ?_ _)); refine blk_put (cs := #[.int .i64 0, .string (⟨#[]⟩ : ByteArray), .slice none 0 0]) ?_ 0 _ rfl; (with_reducible repeat (first | refine blk_drewN ?_ _ | refine blk_drew ?_ | refine blk_alloc ?_ _)); exact BK158.out⟩, ⟨by repeat (first | (with_reducible first | exact HB.out | apply below_alloc | apply pw_below_drewN | apply below_drew1 | refine below_set ?_ GE157.out | refine below_set ?_ GE158.out) | exact HB.out)⟩⟩
  case round =>
    clear H'
    try clear p2
    try clear c4
    try clear hcz5_0
    try clear hcz5_1
    try clear hcz5_2
    try clear hfz5_0
    try clear hfz5_1
    try clear hfz5_2
    obtain ⟨x5_1, x6_1, x159000_1, x159001_1, x159002_1, u159002, rfl, HA, HK1, HO_5, HO_159002, BK157, BK158, HB⟩ := hrel
    cases gk with
    | zero => exact absurd HA.out (by simp [selvedgelaw15_runs.l0])
    | succ k1 =>
      have H := HA.out
      clear HA
      simp only [selvedgelaw15_runs.l0] at H
      by_cases c6 : x6_1 < (l0.length : Int)
      · rw [if_pos c6] at H
        have c6b0 : decide (x6_1 < (l0.length : Int)) = true := decide_eq_true c6
        clear c6
        by_cases c7 : 0 ≤ x6_1
        · rw [if_pos c7] at H
          have c7b0 : decide (0 ≤ x6_1) = true := decide_eq_true c7
          clear c7
          replace H := Option.bind_eq_some_iff.mp H
          obtain ⟨⟨t160, t161, t162, t165⟩, A80, H⟩ := H
          replace H : (if x5_1.length + t165.length < 2932031007402 then ((some (x5_1 ++ t165 : List (S40))).bind fun y169 => (if (rd_T56 l0 x6_1).f1 = true then ((cut_Flush.f t160 t161 t162).bind fun bt173 => (if y169.length + bt173.2.2.2.length < 2932031007402 then (selvedgelaw15_runs.l0 k1 l0 (y169 ++ bt173.2.2.2) (wrap64 (x6_1 + 1)) bt173.1 bt173.2.1 bt173.2.2.1) else (none))) else (selvedgelaw15_runs.l0 k1 l0 y169 (wrap64 (x6_1 + 1)) t160 t161 t162))) else (none)) = some (r1, r2, r3, r4) := H
          have A8 := Aside0.mk A80
          clear A80
          by_cases c9 : x5_1.length + t165.length < 2932031007402
          · rw [if_pos c9] at H
            have LMc9 := Aside0.mk c9
            clear c9
            obtain ⟨y169, hy169⟩ : ∃ y_ : List (S40), y_ = (x5_1 ++ t165) := ⟨_, rfl⟩
            replace H : (if (rd_T56 l0 x6_1).f1 = true then ((cut_Flush.f t160 t161 t162).bind fun bt173 => (if y169.length + bt173.2.2.2.length < 2932031007402 then (selvedgelaw15_runs.l0 k1 l0 (y169 ++ bt173.2.2.2) (wrap64 (x6_1 + 1)) bt173.1 bt173.2.1 bt173.2.2.1) else (none))) else (selvedgelaw15_runs.l0 k1 l0 y169 (wrap64 (x6_1 + 1)) t160 t161 t162)) = some (r1, r2, r3, r4) := by first | (rw [hy169]; with_reducible exact H) | (have H2_ := (Option.bind_some _ _).symm.trans H; rw [hy169]; with_reducible exact H2_) | (have H2_ := (Option.bind_some _ _).symm.trans H; with_reducible exact H2_) | with_reducible exact H | (rw [hy169]; exact H) | exact H
            have Ny169 := Aside0.mk hy169
            clear hy169
            obtain ⟨bq10, hbq10⟩ : ∃ b_ : Bool, b_ = ((rd_T56 l0 x6_1).f1) := ⟨_, rfl⟩
            replace H : (if bq10 = true then ((cut_Flush.f t160 t161 t162).bind fun bt173 => (if y169.length + bt173.2.2.2.length < 2932031007402 then (selvedgelaw15_runs.l0 k1 l0 (y169 ++ bt173.2.2.2) (wrap64 (x6_1 + 1)) bt173.1 bt173.2.1 bt173.2.2.1) else (none))) else (selvedgelaw15_runs.l0 k1 l0 y169 (wrap64 (x6_1 + 1)) t160 t161 t162)) = some (r1, r2, r3, r4) := by rw [← hbq10] at H; exact H
            have Nbq10 := Aside0.mk hbq10
            clear hbq10
            by_cases c11 : bq10 = true
            · subst c11
              have H1 : ((cut_Flush.f t160 t161 t162).bind fun bt173 => (if y169.length + bt173.2.2.2.length < 2932031007402 then (selvedgelaw15_runs.l0 k1 l0 (y169 ++ bt173.2.2.2) (wrap64 (x6_1 + 1)) bt173.1 bt173.2.1 bt173.2.2.1) else (none))) = some (r1, r2, r3, r4) := by rw [if_pos rfl] at H; exact H
              clear H
              have H := H1
              clear H1
              replace H := Option.bind_eq_some_iff.mp H
              obtain ⟨⟨t173, t174, t175, t178⟩, A120, H⟩ := H
              replace H : (if y169.length + t178.length < 2932031007402 then (selvedgelaw15_runs.l0 k1 l0 (y169 ++ t178) (wrap64 (x6_1 + 1)) t173 t174 t175) else (none)) = some (r1, r2, r3, r4) := H
              have A12 := Aside0.mk A120
              clear A120
              by_cases c13 : y169.length + t178.length < 2932031007402
              · rw [if_pos c13] at H
                have LMc13 := Aside0.mk c13
                clear c13
                obtain ⟨y181, hy181⟩ : ∃ y_ : List (S40), y_ = (y169 ++ t178) := ⟨_, rfl⟩
                replace H : (selvedgelaw15_runs.l0 k1 l0 y181 (wrap64 (x6_1 + 1)) t173 t174 t175) = some (r1, r2, r3, r4) := by first | (rw [hy181]; with_reducible exact H) | (have H2_ := (Option.bind_some _ _).symm.trans H; rw [hy181]; with_reducible exact H2_) | (have H2_ := (Option.bind_some _ _).symm.trans H; with_reducible exact H2_) | with_reducible exact H | (rw [hy181]; exact H) | exact H
                have Ny181 := Aside0.mk hy181
                clear hy181
                have H' := Aside0.mk H
                clear H
                obtain ⟨Ao14, co14, eo14⟩ := Kd.V_slice HO_159002.out
                subst eo14
                try go_wp2
                have n0_ := Aside0.mk (Kd.N_drew HO_5.out)
                have n1_ := Aside0.mk (Kd.V_drew HO_159002.out)
                have n2_ := Aside0.mk (blk_drew BK157.out)
                have n3_ := Aside0.mk (blk_drew BK158.out)
                have n4_ := Aside0.mk (below_drew1 HB.out)
                clear HO_5
                clear HO_159002
                clear BK157
                clear BK158
                clear HB
                have HO_5 := n0_
                have HO_159002 := n1_
                have BK157 := n2_
                have BK158 := n3_
                have HB := n4_
                clear n0_ n1_ n2_ n3_ n4_
                have p159 : 0 ≤ (x6_1 : Int) := of_decide_eq_true (by first | (with_reducible assumption) | assumption)
                have q159 : x6_1 < (l0.length : Int) := of_decide_eq_true (by first | (with_reducible assumption) | assumption)
                obtain ⟨ad159, A159_0, c159_0, e159, hx159_0, hx159_1, hl159_0, hi159_0⟩ := at_T56 HR0.out x6_1 p159 q159
                have hw159_1 := hx159_1
                have hw159_0 := hx159_0
                (try rw [← Nbq10.out] at hx159_1)
                cases e159
                replace hx159_0 := (HB.out.cell (World.block_lt_of_cell? w _ hx159_0)).trans hx159_0
                replace hx159_1 := (HB.out.cell (World.block_lt_of_cell? w _ hx159_1)).trans hx159_1
                have HR159_0 := Aside0.mk hi159_0
                have HC159_0 := Aside0.mk hl159_0
                clear hi159_0 hl159_0
                replace p159 := eq_true p159
                replace q159 := eq_true q159
                refine start_ (n := 13) (S := fun w' => w'.cell? ⟨gb158, 0, none⟩ = some (.int .i64 x159000_1) ∧ w'.cell? ⟨gb158, 1, none⟩ = some (.string x159001_1) ∧ w'.cell? ⟨gb158, 2, none⟩ = some (.slice Ao14 x159002_1.length co14) ∧ w'.cell? (ad159.add ((x6_1).toNat * 2)) = some (.slice A159_0 ((rd_T56 l0 x6_1).f0).length c159_0) ∧ w'.cell? ⟨(ad159.add ((x6_1).toNat * 2)).block, (ad159.add ((x6_1).toNat * 2)).off + 1, none⟩ = some (.bool true)) (ds := []) #[false, false, false, false, false, false, false, false, false, false, false, false, false] (by kernel_rfl) rfl rfl ⟨(blk_cell BK158.out 0).trans rfl, (blk_cell BK158.out 1).trans rfl, (blk_cell BK158.out 2).trans rfl, ((HB.out.cell (World.block_lt_of_cell? w _ hw159_0)).trans (by first | exact hw159_0 | (rw [hw159_0, ← Nbq10.out]))), ((HB.out.cell (World.block_lt_of_cell? w _ hw159_1)).trans (by first | exact hw159_1 | (rw [hw159_1, ← Nbq10.out])))⟩ (fun hHeld => ?_); refine with_tabW selvedgelaw15_runs.tab6 selvedgelaw15_runs.bits6 (fun HT_ HW_ => ?_)
                generalize wr.drew = w15 at HO_5 HO_159002 BK157 BK158 HB HR159_0 hx159_0 hx159_1 hHeld ⊢
                refine pure_ (i := 1) (N := some 18) (v := ?_) (a' := ?_) #[false, true, false, false, false, false, false, false, false, false, false, false, false] rfl rfl (any_of HT_.out (by kernel_rfl)) (fun _ _ _ h => h) (Or.inl ⟨by rfl, ?_⟩) ?_ ?_
                rotate_left
                · intro w'
                  go_simp
                  with_reducible rfl
                rotate_left
                · simp only [Act.put, List.setIfInBounds_toArray, List.set_cons_zero, List.set_cons_succ, i64_w, i32_w]
                  rfl
                refine pure_ (i := 2) (N := some 19) (v := ?_) (a' := ?_) #[false, true, true, false, false, false, false, false, false, false, false, false, false] rfl rfl (any_of HT_.out (by kernel_rfl)) (fun _ _ _ h => h) (Or.inl ⟨by rfl, ?_⟩) ?_ ?_
                rotate_left
                · intro w'
                  go_simp
                  with_reducible rfl
                rotate_left
                · simp only [Act.put, List.setIfInBounds_toArray, List.set_cons_zero, List.set_cons_succ, i64_w, i32_w]
                  rfl
                refine pure_ (i := 3) (N := some 20) (v := ?_) (a' := ?_) #[false, true, true, true, false, false, false, false, false, false, false, false, false] rfl rfl (any_of HT_.out (by kernel_rfl)) (fun _ _ _ h => h) (Or.inl ⟨by rfl, ?_⟩) ?_ ?_
                rotate_left
                · intro w'
                  go_simp
                  with_reducible rfl
                rotate_left
                · simp only [Act.put, List.setIfInBounds_toArray, List.set_cons_zero, List.set_cons_succ, i64_w, i32_w]
                  rfl
                refine pure_ (i := 4) (N := some 21) (v := ?_) (a' := ?_) #[false, true, true, true, true, false, false, false, false, false, false, false, false] rfl rfl (any_of HT_.out (by kernel_rfl)) (fun _ _ _ h => h) (Or.inl ⟨by rfl, ?_⟩) ?_ ?_
                rotate_left
                · intro w'
                  go_simp
                  with_reducible rfl
                rotate_left
                · simp only [Act.put, List.setIfInBounds_toArray, List.set_cons_zero, List.set_cons_succ, i64_w, i32_w]
                  rfl
                refine take_ (i := 0) (N := some 17) (v := ?_) (a' := ?_) #[true, true, true, true, true, false, false, false, false, false, false, false, false] rfl rfl (take_ofW HT_.out HW_.out (by kernel_rfl)) (fun _ _ _ h => h) (Or.inl ⟨by rfl, ?_⟩) hHeld ?_ ?_
                rotate_left
                · rintro w' ⟨s0, s1, s2, s3, s4⟩
                  go_simp
                  with_reducible rfl
                rotate_left
                · simp only [Act.put, List.setIfInBounds_toArray, List.set_cons_zero, List.set_cons_succ, i64_w, i32_w]
                  rfl
                refine take_ (i := 5) (N := some 22) (v := ?_) (a' := ?_) #[true, true, true, true, true, true, false, false, false, false, false, false, false] rfl rfl (take_ofW HT_.out HW_.out (by kernel_rfl)) (fun _ _ _ h => h) (Or.inl ⟨by rfl, ?_⟩) hHeld ?_ ?_
                rotate_left
                · rintro w' ⟨s0, s1, s2, s3, s4⟩
                  go_simp
                  with_reducible rfl
                rotate_left
                · simp only [Act.put, List.setIfInBounds_toArray, List.set_cons_zero, List.set_cons_succ, i64_w, i32_w]
                  rfl
                refine join_ (σ := Value × Value × Nat) 2 #[true, true, true, true, true, true, true, true, true, true, true, false, false] (fun s_ => [(23, .tuple #[.agg #[.int .i64 t160, .string t161, s_.1], s_.2.1]), (7, .pointer (some ⟨s_.2.2, 0, none⟩)), (16, .tuple #[.agg #[.int .i64 t160, .string t161, s_.1], s_.2.1]), (24, .agg #[.int .i64 t160, .string t161, s_.1]), (25, s_.2.1)]) (fun s_ w' => (w'.cell? ⟨gb158, 0, none⟩ = some (.int .i64 x159000_1) ∧ w'.cell? ⟨gb158, 1, none⟩ = some (.string x159001_1) ∧ w'.cell? ⟨gb158, 2, none⟩ = some (.slice Ao14 x159002_1.length co14) ∧ w'.cell? (ad159.add ((x6_1).toNat * 2)) = some (.slice A159_0 ((rd_T56 l0 x6_1).f0).length c159_0) ∧ w'.cell? ⟨(ad159.add ((x6_1).toNat * 2)).block, (ad159.add ((x6_1).toNat * 2)).off + 1, none⟩ = some (.bool true)) ∧ (Kd.V Kd.string 9 w' w.heap.size (fun k_ => (w.heap.size ≤ k_) ∧ some k_ ≠ (s_.2.1 : Value).ownBlock ∧ some k_ ≠ (u5 : Value).ownBlock ∧ k_ ≠ gb157 ∧ k_ ≠ gb158 ∧ k_ ≠ s_.2.2) s_.1 t162) ∧ (Kd.N k40 40 w' w.heap.size (fun k_ => (w.heap.size ≤ k_) ∧ some k_ ≠ (u5 : Value).ownBlock ∧ k_ ≠ gb157 ∧ k_ ≠ gb158 ∧ k_ ≠ s_.2.2) s_.2.1 t165) ∧ (Kd.V Kd.string 9 w' w.heap.size (fun k_ => (w.heap.size ≤ k_) ∧ some k_ ≠ (s_.2.1 : Value).ownBlock ∧ some k_ ≠ (u5 : Value).ownBlock ∧ k_ ≠ gb157 ∧ k_ ≠ gb158 ∧ k_ ≠ s_.2.2) (.slice Ao14 x159002_1.length co14) x159002_1) ∧ (Kd.N k40 40 w' w.heap.size (fun k_ => (w.heap.size ≤ k_) ∧ some k_ ≠ (s_.2.1 : Value).ownBlock ∧ k_ ≠ gb157 ∧ k_ ≠ gb158 ∧ k_ ≠ s_.2.2) u5 x5_1) ∧ (w'.heap[gb157]? = some (.cells #[.int .i64 0, .string (⟨#[]⟩ : ByteArray), .slice none 0 0] 39 (0, 0))) ∧ (w'.heap[gb158]? = some (.cells #[.int .i64 x159000_1, .string x159001_1, .slice Ao14 x159002_1.length co14] 39 (0, 0))) ∧ (w'.heap[s_.2.2]? = some (.cells #[.int .i64 0, .string (⟨#[]⟩ : ByteArray), .slice none 0 0] 39 (0, 0))) ∧ (w.heap.size ≤ s_.2.2) ∧ (w.heap.size ≤ s_.2.2) ∧ (gb157 ≠ s_.2.2) ∧ (s_.2.2 ≠ gb157) ∧ (gb158 ≠ s_.2.2) ∧ (s_.2.2 ≠ gb158) ∧ (Below w.heap.size w w')) ?_ ?_
                rotate_left
                · intro hCont
                  refine two_ (i := 6) (j := 10) (Ni := some 23) (Nj := some 7) #[true, true, true, true, true, true, true, false, false, false, false, false, false] #[true, true, true, true, true, true, false, false, false, false, true, false, false] rfl rfl rfl rfl (two_of HT_.out (by kernel_rfl)) (by decide) (by decide) (fun K hK => ?_) (fun K hK => ?_)
                  · skip
                    refine goes_ Try.func38 (by kernel_rfl) rfl #[.agg #[.int .i64 x159000_1, .string x159001_1, .slice Ao14 x159002_1.length co14], .slice A159_0 ((rd_T56 l0 x6_1).f0).length c159_0] (by rfl) rfl rfl (by (try simp only [List.map_toArray, List.map_cons, List.map_nil]); first | done | rfl | (simp only [List.length_drop, List.length_take]; rfl)) ?_
                    with_reducible refine (cut_Feed.calls k1 x159000_1 x159001_1 (fun k_ => ((w.heap.size ≤ k_) ∧ (some k_ ≠ (u5 : Value).ownBlock ∧ (k_ ≠ gb157 ∧ k_ ≠ gb158)))) _ _ x159002_1 _ _ ((rd_T56 l0 x6_1).f0) t160 t161 t162 t165 _ ?side1 ?side2 ?side3 A8.out).mono ?_
                    (case side1 => exact HO_159002.out)
                    (case side2 => repeat (first | exact (Kd.C_below HR159_0.out HB.out) | (with_reducible refine Kd.C_alloc ?_ _) | (with_reducible refine Kd.C_drewN ?_ _) | (with_reducible refine Kd.C_drew ?_)))
                    (case side3 => exact HC159_0.out)
                    rintro e w16 ⟨v163, v166, rfl, ho0, ho1, hb⟩
                    refine ⟨_, rfl, ?_⟩
                    have n0_ := Aside0.mk (Kd.N_elder' (by (with_reducible repeat (first | apply Kd.N_alloc | apply Kd.N_drewN | apply Kd.N_drew)); exact HO_5.out) (Kd.N_base ho1) hb)
                    have n1_ := Aside0.mk (Kd.V_elder' (by (with_reducible repeat (first | apply Kd.V_alloc | apply Kd.V_drewN | apply Kd.V_drew)); exact HO_159002.out) (Kd.N_base ho1) hb)
                    have n2_ := Aside0.mk (Kd.V_lower (Kd.V_mono (ok' := fun k_ => (w.heap.size ≤ k_) ∧ some k_ ≠ (v166 : Value).ownBlock ∧ some k_ ≠ (u5 : Value).ownBlock ∧ k_ ≠ gb157 ∧ k_ ≠ gb158) ho0 (fun k_ hk_ => ⟨Or.elim hk_.1 (fun hs_ => hs_.1) (fun hn_ => (Nat.le_trans (below_size (by repeat (first | (with_reducible first | exact HB.out | apply below_alloc | apply pw_below_drewN | apply below_drew1 | refine below_set ?_ GE157.out | refine below_set ?_ GE158.out) | exact HB.out))) hn_)), hk_.2, Or.elim hk_.1 (fun hs_ => hs_.2.1) (fun hn_ => (Kd.fresh' (Kd.N_lt (by (with_reducible repeat (first | apply Kd.N_alloc | apply Kd.N_drewN | apply Kd.N_drew)); exact HO_5.out)) k_ hn_)), Or.elim hk_.1 (fun hs_ => hs_.2.2.1) (fun hn_ => (Kd.freshB (g := gb157) (o := .cells #[.int .i64 0, .string (⟨#[]⟩ : ByteArray), .slice none 0 0] 39 (0, 0)) (by (with_reducible repeat (first | refine blk_drewN ?_ _ | refine blk_drew ?_ | refine blk_alloc ?_ _)); exact BK157.out) k_ hn_)), Or.elim hk_.1 (fun hs_ => hs_.2.2.2) (fun hn_ => (Kd.freshB (g := gb158) (o := .cells #[.int .i64 x159000_1, .string x159001_1, .slice Ao14 x159002_1.length co14] 39 (0, 0)) (by (with_reducible repeat (first | refine blk_drewN ?_ _ | refine blk_drew ?_ | refine blk_alloc ?_ _)); exact BK158.out) k_ hn_))⟩)) (below_size (by repeat (first | (with_reducible first | exact HB.out | apply below_alloc | apply pw_below_drewN | apply below_drew1 | refine below_set ?_ GE157.out | refine below_set ?_ GE158.out) | exact HB.out))))
                    have n3_ := Aside0.mk (Kd.N_lower (Kd.N_mono (ok' := fun k_ => (w.heap.size ≤ k_) ∧ some k_ ≠ (u5 : Value).ownBlock ∧ k_ ≠ gb157 ∧ k_ ≠ gb158) ho1 (fun k_ hk_ => ⟨Or.elim hk_ (fun hs_ => hs_.1) (fun hn_ => (Nat.le_trans (below_size (by repeat (first | (with_reducible first | exact HB.out | apply below_alloc | apply pw_below_drewN | apply below_drew1 | refine below_set ?_ GE157.out | refine below_set ?_ GE158.out) | exact HB.out))) hn_)), Or.elim hk_ (fun hs_ => hs_.2.1) (fun hn_ => (Kd.fresh' (Kd.N_lt (by (with_reducible repeat (first | apply Kd.N_alloc | apply Kd.N_drewN | apply Kd.N_drew)); exact HO_5.out)) k_ hn_)), Or.elim hk_ (fun hs_ => hs_.2.2.1) (fun hn_ => (Kd.freshB (g := gb157) (o := .cells #[.int .i64 0, .string (⟨#[]⟩ : ByteArray), .slice none 0 0] 39 (0, 0)) (by (with_reducible repeat (first | refine blk_drewN ?_ _ | refine blk_drew ?_ | refine blk_alloc ?_ _)); exact BK157.out) k_ hn_)), Or.elim hk_ (fun hs_ => hs_.2.2.2) (fun hn_ => (Kd.freshB (g := gb158) (o := .cells #[.int .i64 x159000_1, .string x159001_1, .slice Ao14 x159002_1.length co14] 39 (0, 0)) (by (with_reducible repeat (first | refine blk_drewN ?_ _ | refine blk_drew ?_ | refine blk_alloc ?_ _)); exact BK158.out) k_ hn_))⟩)) (below_size (by repeat (first | (with_reducible first | exact HB.out | apply below_alloc | apply pw_below_drewN | apply below_drew1 | refine below_set ?_ GE157.out | refine below_set ?_ GE158.out) | exact HB.out))))
                    have n4_ := Aside0.mk (blk_below (g := gb157) (o := .cells #[.int .i64 0, .string (⟨#[]⟩ : ByteArray), .slice none 0 0] 39 (0, 0)) (by (with_reducible repeat (first | refine blk_drewN ?_ _ | refine blk_drew ?_ | refine blk_alloc ?_ _)); exact BK157.out) hb)
                    have n5_ := Aside0.mk (blk_below (g := gb158) (o := .cells #[.int .i64 x159000_1, .string x159001_1, .slice Ao14 x159002_1.length co14] 39 (0, 0)) (by (with_reducible repeat (first | refine blk_drewN ?_ _ | refine blk_drew ?_ | refine blk_alloc ?_ _)); exact BK158.out) hb)
                    have n6_ := Aside0.mk (below_step (by repeat (first | (with_reducible first | exact HB.out | apply below_alloc | apply pw_below_drewN | apply below_drew1 | refine below_set ?_ GE157.out | refine below_set ?_ GE158.out) | exact HB.out)) hb)
                    clear HO_5
                    clear HO_159002
                    clear BK157
                    clear BK158
                    clear HB
                    have HO_5 := n0_
                    have HO_159002 := n1_
                    have HO164 := n2_
                    have HO167 := n3_
                    have BK157 := n4_
                    have BK158 := n5_
                    have HB := n6_
                    clear n0_ n1_ n2_ n3_ n4_ n5_ n6_
                    (try clear hb)
                    (try clear hb2)
                    (try clear hk)
                    (try clear hi)
                    (try clear ho0)
                    (try clear ho1)
                    refine hK.out _ _ ⟨(blk_cell BK158.out 0).trans rfl, (blk_cell BK158.out 1).trans rfl, (blk_cell BK158.out 2).trans rfl, ((HB.out.cell (World.block_lt_of_cell? w _ hw159_0)).trans (by first | exact hw159_0 | (rw [hw159_0, ← Nbq10.out]))), ((HB.out.cell (World.block_lt_of_cell? w _ hw159_1)).trans (by first | exact hw159_1 | (rw [hw159_1, ← Nbq10.out])))⟩ (fun hHeld => ?_)
                    clear hK K
                    refine norm_ (a' := ?_) ?_ ?_
                    rotate_left
                    · show Act.put _ (some 23) _ = _
                      simp only [Act.put, List.setIfInBounds_toArray, List.set_cons_zero, List.set_cons_succ, i64_w, i32_w]
                      rfl
                    refine pure_ (i := 7) (N := some 16) (v := ?_) (a' := ?_) #[true, true, true, true, true, true, true, true, false, false, false, false, false] rfl rfl (any_of HT_.out (by kernel_rfl)) (fun _ _ _ h => h) (Or.inl ⟨by rfl, ?_⟩) ?_ ?_
                    rotate_left
                    · intro w'
                      go_simp
                      with_reducible rfl
                    rotate_left
                    · simp only [Act.put, List.setIfInBounds_toArray, List.set_cons_zero, List.set_cons_succ, i64_w, i32_w]
                      rfl
                    refine pure_ (i := 8) (N := some 24) (v := ?_) (a' := ?_) #[true, true, true, true, true, true, true, true, true, false, false, false, false] rfl rfl (any_of HT_.out (by kernel_rfl)) (fun _ _ _ h => h) (Or.inl ⟨by rfl, ?_⟩) ?_ ?_
                    rotate_left
                    · intro w'
                      go_simp
                      with_reducible rfl
                    rotate_left
                    · simp only [Act.put, List.setIfInBounds_toArray, List.set_cons_zero, List.set_cons_succ, i64_w, i32_w]
                      rfl
                    refine pure_ (i := 9) (N := some 25) (v := ?_) (a' := ?_) #[true, true, true, true, true, true, true, true, true, true, false, false, false] rfl rfl (any_of HT_.out (by kernel_rfl)) (fun _ _ _ h => h) (Or.inl ⟨by rfl, ?_⟩) ?_ ?_
                    rotate_left
                    · intro w'
                      go_simp
                      with_reducible rfl
                    rotate_left
                    · simp only [Act.put, List.setIfInBounds_toArray, List.set_cons_zero, List.set_cons_succ, i64_w, i32_w]
                      rfl
                    refine one_ (i := 10) (N := some 7) #[true, true, true, true, true, true, true, true, true, true, true, false, false] rfl rfl (one_of HT_.out (by kernel_rfl)) (by decide) (fun K hK => ?_)
                    refine box_step ?hg (N := 7) ?hd (cs := #[.int .i64 0, .string (⟨#[]⟩ : ByteArray), .slice none 0 0]) (t := 39) ?hr ?_; (case hd => rfl); (case hg => rfl); (case hr => first | (go_simp; done) | (go_simp; rfl))
                    intro gb168 hg w17 hbox hb
                    have n0_ := Aside0.mk (Kd.N_below (Kd.N_elderB (by (with_reducible repeat (first | apply Kd.N_alloc | apply Kd.N_drewN | apply Kd.N_drew)); exact HO_5.out) gb168 (Nat.le_of_eq hg.symm)) hb)
                    have n1_ := Aside0.mk (Kd.V_below (Kd.V_elderB (by (with_reducible repeat (first | apply Kd.V_alloc | apply Kd.V_drewN | apply Kd.V_drew)); exact HO_159002.out) gb168 (Nat.le_of_eq hg.symm)) hb)
                    have n2_ := Aside0.mk (Kd.V_below (Kd.V_elderB (by (with_reducible repeat (first | apply Kd.V_alloc | apply Kd.V_drewN | apply Kd.V_drew)); exact HO164.out) gb168 (Nat.le_of_eq hg.symm)) hb)
                    have n3_ := Aside0.mk (Kd.N_below (Kd.N_elderB (by (with_reducible repeat (first | apply Kd.N_alloc | apply Kd.N_drewN | apply Kd.N_drew)); exact HO167.out) gb168 (Nat.le_of_eq hg.symm)) hb)
                    have n4_ := Aside0.mk (blk_below (g := gb157) (o := .cells #[.int .i64 0, .string (⟨#[]⟩ : ByteArray), .slice none 0 0] 39 (0, 0)) (by (with_reducible repeat (first | refine blk_drewN ?_ _ | refine blk_drew ?_ | refine blk_alloc ?_ _)); exact BK157.out) hb)
                    have n5_ := Aside0.mk (blk_below (g := gb158) (o := .cells #[.int .i64 x159000_1, .string x159001_1, .slice Ao14 x159002_1.length co14] 39 (0, 0)) (by (with_reducible repeat (first | refine blk_drewN ?_ _ | refine blk_drew ?_ | refine blk_alloc ?_ _)); exact BK158.out) hb)
                    have n6_ := Aside0.mk (below_step (by repeat (first | (with_reducible first | exact HB.out | apply below_alloc | apply pw_below_drewN | apply below_drew1 | refine below_set ?_ GE157.out | refine below_set ?_ GE158.out) | exact HB.out)) hb)
                    have n7_ := Aside0.mk (hbox)
                    have n8_ := Aside0.mk ((by rw [hg]; exact (below_size (by repeat (first | (with_reducible first | exact HB.out | apply below_alloc | apply pw_below_drewN | apply below_drew1 | refine below_set ?_ GE157.out | refine below_set ?_ GE158.out) | exact HB.out))) : w.heap.size ≤ gb168))
                    have n9_ := Aside0.mk ((by rw [hg]; exact (below_size (by repeat (first | (with_reducible first | exact HB.out | apply below_alloc | apply pw_below_drewN | apply below_drew1 | refine below_set ?_ GE157.out | refine below_set ?_ GE158.out) | exact HB.out))) : w.heap.size ≤ gb168))
                    have n10_ := Aside0.mk ((by rw [hg]; exact Nat.ne_of_lt (blk_lt (g := gb157) (o := .cells #[.int .i64 0, .string (⟨#[]⟩ : ByteArray), .slice none 0 0] 39 (0, 0)) (by (with_reducible repeat (first | refine blk_drewN ?_ _ | refine blk_drew ?_ | refine blk_alloc ?_ _)); exact BK157.out)) : gb157 ≠ gb168))
                    have n11_ := Aside0.mk ((by rw [hg]; exact Nat.ne_of_gt (blk_lt (g := gb157) (o := .cells #[.int .i64 0, .string (⟨#[]⟩ : ByteArray), .slice none 0 0] 39 (0, 0)) (by (with_reducible repeat (first | refine blk_drewN ?_ _ | refine blk_drew ?_ | refine blk_alloc ?_ _)); exact BK157.out)) : gb168 ≠ gb157))
                    have n12_ := Aside0.mk ((by rw [hg]; exact Nat.ne_of_lt (blk_lt (g := gb158) (o := .cells #[.int .i64 x159000_1, .string x159001_1, .slice Ao14 x159002_1.length co14] 39 (0, 0)) (by (with_reducible repeat (first | refine blk_drewN ?_ _ | refine blk_drew ?_ | refine blk_alloc ?_ _)); exact BK158.out)) : gb158 ≠ gb168))
                    have n13_ := Aside0.mk ((by rw [hg]; exact Nat.ne_of_gt (blk_lt (g := gb158) (o := .cells #[.int .i64 x159000_1, .string x159001_1, .slice Ao14 x159002_1.length co14] 39 (0, 0)) (by (with_reducible repeat (first | refine blk_drewN ?_ _ | refine blk_drew ?_ | refine blk_alloc ?_ _)); exact BK158.out)) : gb168 ≠ gb158))
                    clear HO_5
                    clear HO_159002
                    clear HO164
                    clear HO167
                    clear BK157
                    clear BK158
                    clear HB
                    have HO_5 := n0_
                    have HO_159002 := n1_
                    have HO164 := n2_
                    have HO167 := n3_
                    have BK157 := n4_
                    have BK158 := n5_
                    have HB := n6_
                    have BK168 := n7_
                    have GW168 := n8_
                    have GE168 := n9_
                    have NB157_168 := n10_
                    have NB168_157 := n11_
                    have NB158_168 := n12_
                    have NB168_158 := n13_
                    clear n0_ n1_ n2_ n3_ n4_ n5_ n6_ n7_ n8_ n9_ n10_ n11_ n12_ n13_
                    clear hb hbox hg
                    refine hK.out _ _ ⟨(blk_cell BK158.out 0).trans rfl, (blk_cell BK158.out 1).trans rfl, (blk_cell BK158.out 2).trans rfl, ((HB.out.cell (World.block_lt_of_cell? w _ hw159_0)).trans (by first | exact hw159_0 | (rw [hw159_0, ← Nbq10.out]))), ((HB.out.cell (World.block_lt_of_cell? w _ hw159_1)).trans (by first | exact hw159_1 | (rw [hw159_1, ← Nbq10.out])))⟩ (fun hHeld => ?_)
                    clear hK K
                    refine norm_ (a' := ?_) ?_ ?_
                    rotate_left
                    · show Act.put _ (some 7) _ = _
                      simp only [Act.put, List.setIfInBounds_toArray, List.set_cons_zero, List.set_cons_succ, i64_w, i32_w]
                      rfl
                    exact norm_ (by simp only [putAll, Act.put, List.setIfInBounds_toArray, List.set_cons_zero, List.set_cons_succ]) (hCont (v163, v166, gb168) _ ⟨hHeld, (by (with_reducible repeat (first | apply Kd.V_alloc | apply Kd.V_drewN | apply Kd.V_drew)); exact Kd.V_mono HO164.out (fun _ hk => ⟨hk.1.1, ⟨hk.1.2.1, ⟨hk.1.2.2.1, ⟨hk.1.2.2.2.1, ⟨hk.1.2.2.2.2, hk.2⟩⟩⟩⟩⟩)), (by (with_reducible repeat (first | apply Kd.N_alloc | apply Kd.N_drewN | apply Kd.N_drew)); exact Kd.N_mono HO167.out (fun _ hk => ⟨hk.1.1, ⟨hk.1.2.1, ⟨hk.1.2.2.1, ⟨hk.1.2.2.2, hk.2⟩⟩⟩⟩)), (by (with_reducible repeat (first | apply Kd.V_alloc | apply Kd.V_drewN | apply Kd.V_drew)); exact Kd.V_mono HO_159002.out (fun _ hk => ⟨hk.1.1.1, ⟨hk.1.2, ⟨hk.1.1.2.1, ⟨hk.1.1.2.2.1, ⟨hk.1.1.2.2.2, hk.2⟩⟩⟩⟩⟩)), (by (with_reducible repeat (first | apply Kd.N_alloc | apply Kd.N_drewN | apply Kd.N_drew)); exact Kd.N_mono HO_5.out (fun _ hk => ⟨hk.1.1.1, ⟨hk.1.2, ⟨hk.1.1.2.1, ⟨hk.1.1.2.2, hk.2⟩⟩⟩⟩)), (by (with_reducible repeat (first | refine blk_drewN ?_ _ | refine blk_drew ?_ | refine blk_alloc ?_ _)); exact BK157.out), (by (with_reducible repeat (first | refine blk_drewN ?_ _ | refine blk_drew ?_ | refine blk_alloc ?_ _)); exact BK158.out), (by (with_reducible repeat (first | refine blk_drewN ?_ _ | refine blk_drew ?_ | refine blk_alloc ?_ _)); exact BK168.out), GW168.out, GE168.out, NB157_168.out, NB168_157.out, NB158_168.out, NB168_158.out, (by repeat (first | (with_reducible first | exact HB.out | apply below_alloc | apply pw_below_drewN | apply below_drew1 | refine below_set ?_ GE157.out | refine below_set ?_ GE158.out | refine below_set ?_ GE168.out) | exact HB.out))⟩)
                  · skip
                    refine box_step ?hg (N := 7) ?hd (cs := #[.int .i64 0, .string (⟨#[]⟩ : ByteArray), .slice none 0 0]) (t := 39) ?hr ?_; (case hd => rfl); (case hg => rfl); (case hr => first | (go_simp; done) | (go_simp; rfl))
                    intro gb168 hg w16 hbox hb
                    have n0_ := Aside0.mk (Kd.N_below (Kd.N_elderB (by (with_reducible repeat (first | apply Kd.N_alloc | apply Kd.N_drewN | apply Kd.N_drew)); exact HO_5.out) gb168 (Nat.le_of_eq hg.symm)) hb)
                    have n1_ := Aside0.mk (Kd.V_below (Kd.V_elderB (by (with_reducible repeat (first | apply Kd.V_alloc | apply Kd.V_drewN | apply Kd.V_drew)); exact HO_159002.out) gb168 (Nat.le_of_eq hg.symm)) hb)
                    have n2_ := Aside0.mk (blk_below (g := gb157) (o := .cells #[.int .i64 0, .string (⟨#[]⟩ : ByteArray), .slice none 0 0] 39 (0, 0)) (by (with_reducible repeat (first | refine blk_drewN ?_ _ | refine blk_drew ?_ | refine blk_alloc ?_ _)); exact BK157.out) hb)
                    have n3_ := Aside0.mk (blk_below (g := gb158) (o := .cells #[.int .i64 x159000_1, .string x159001_1, .slice Ao14 x159002_1.length co14] 39 (0, 0)) (by (with_reducible repeat (first | refine blk_drewN ?_ _ | refine blk_drew ?_ | refine blk_alloc ?_ _)); exact BK158.out) hb)
                    have n4_ := Aside0.mk (below_step (by repeat (first | (with_reducible first | exact HB.out | apply below_alloc | apply pw_below_drewN | apply below_drew1 | refine below_set ?_ GE157.out | refine below_set ?_ GE158.out) | exact HB.out)) hb)
                    have n5_ := Aside0.mk (hbox)
                    have n6_ := Aside0.mk ((by rw [hg]; exact (below_size (by repeat (first | (with_reducible first | exact HB.out | apply below_alloc | apply pw_below_drewN | apply below_drew1 | refine below_set ?_ GE157.out | refine below_set ?_ GE158.out) | exact HB.out))) : w.heap.size ≤ gb168))
                    have n7_ := Aside0.mk ((by rw [hg]; exact (below_size (by repeat (first | (with_reducible first | exact HB.out | apply below_alloc | apply pw_below_drewN | apply below_drew1 | refine below_set ?_ GE157.out | refine below_set ?_ GE158.out) | exact HB.out))) : w.heap.size ≤ gb168))
                    have n8_ := Aside0.mk ((by rw [hg]; exact Nat.ne_of_lt (blk_lt (g := gb157) (o := .cells #[.int .i64 0, .string (⟨#[]⟩ : ByteArray), .slice none 0 0] 39 (0, 0)) (by (with_reducible repeat (first | refine blk_drewN ?_ _ | refine blk_drew ?_ | refine blk_alloc ?_ _)); exact BK157.out)) : gb157 ≠ gb168))
                    have n9_ := Aside0.mk ((by rw [hg]; exact Nat.ne_of_gt (blk_lt (g := gb157) (o := .cells #[.int .i64 0, .string (⟨#[]⟩ : ByteArray), .slice none 0 0] 39 (0, 0)) (by (with_reducible repeat (first | refine blk_drewN ?_ _ | refine blk_drew ?_ | refine blk_alloc ?_ _)); exact BK157.out)) : gb168 ≠ gb157))
                    have n10_ := Aside0.mk ((by rw [hg]; exact Nat.ne_of_lt (blk_lt (g := gb158) (o := .cells #[.int .i64 x159000_1, .string x159001_1, .slice Ao14 x159002_1.length co14] 39 (0, 0)) (by (with_reducible repeat (first | refine blk_drewN ?_ _ | refine blk_drew ?_ | refine blk_alloc ?_ _)); exact BK158.out)) : gb158 ≠ gb168))
                    have n11_ := Aside0.mk ((by rw [hg]; exact Nat.ne_of_gt (blk_lt (g := gb158) (o := .cells #[.int .i64 x159000_1, .string x159001_1, .slice Ao14 x159002_1.length co14] 39 (0, 0)) (by (with_reducible repeat (first | refine blk_drewN ?_ _ | refine blk_drew ?_ | refine blk_alloc ?_ _)); exact BK158.out)) : gb168 ≠ gb158))
                    clear HO_5
                    clear HO_159002
                    clear BK157
                    clear BK158
                    clear HB
                    have HO_5 := n0_
                    have HO_159002 := n1_
                    have BK157 := n2_
                    have BK158 := n3_
                    have HB := n4_
                    have BK168 := n5_
                    have GW168 := n6_
                    have GE168 := n7_
                    have NB157_168 := n8_
                    have NB168_157 := n9_
                    have NB158_168 := n10_
                    have NB168_158 := n11_
                    clear n0_ n1_ n2_ n3_ n4_ n5_ n6_ n7_ n8_ n9_ n10_ n11_
                    clear hb hbox hg
                    refine hK.out _ _ ⟨(blk_cell BK158.out 0).trans rfl, (blk_cell BK158.out 1).trans rfl, (blk_cell BK158.out 2).trans rfl, ((HB.out.cell (World.block_lt_of_cell? w _ hw159_0)).trans (by first | exact hw159_0 | (rw [hw159_0, ← Nbq10.out]))), ((HB.out.cell (World.block_lt_of_cell? w _ hw159_1)).trans (by first | exact hw159_1 | (rw [hw159_1, ← Nbq10.out])))⟩ (fun hHeld => ?_)
                    clear hK K
                    refine norm_ (a' := ?_) ?_ ?_
                    rotate_left
                    · show Act.put _ (some 7) _ = _
                      simp only [Act.put, List.setIfInBounds_toArray, List.set_cons_zero, List.set_cons_succ, i64_w, i32_w]
                      rfl
                    refine one_ (i := 6) (N := some 23) #[true, true, true, true, true, true, true, false, false, false, true, false, false] rfl rfl (one_of HT_.out (by kernel_rfl)) (by decide) (fun K hK => ?_)
                    refine goes_ Try.func38 (by kernel_rfl) rfl #[.agg #[.int .i64 x159000_1, .string x159001_1, .slice Ao14 x159002_1.length co14], .slice A159_0 ((rd_T56 l0 x6_1).f0).length c159_0] (by rfl) rfl rfl (by (try simp only [List.map_toArray, List.map_cons, List.map_nil]); first | done | rfl | (simp only [List.length_drop, List.length_take]; rfl)) ?_
                    with_reducible refine (cut_Feed.calls k1 x159000_1 x159001_1 (fun k_ => (((w.heap.size ≤ k_) ∧ (some k_ ≠ (u5 : Value).ownBlock ∧ (k_ ≠ gb157 ∧ k_ ≠ gb158))) ∧ k_ ≠ gb168)) _ _ x159002_1 _ _ ((rd_T56 l0 x6_1).f0) t160 t161 t162 t165 _ ?side1 ?side2 ?side3 A8.out).mono ?_
                    (case side1 => exact HO_159002.out)
                    (case side2 => repeat (first | exact (Kd.C_below HR159_0.out HB.out) | (with_reducible refine Kd.C_alloc ?_ _) | (with_reducible refine Kd.C_drewN ?_ _) | (with_reducible refine Kd.C_drew ?_)))
                    (case side3 => exact HC159_0.out)
                    rintro e w17 ⟨v163, v166, rfl, ho0, ho1, hb⟩
                    refine ⟨_, rfl, ?_⟩
                    have n0_ := Aside0.mk (Kd.N_elder' (by (with_reducible repeat (first | apply Kd.N_alloc | apply Kd.N_drewN | apply Kd.N_drew)); exact HO_5.out) (Kd.N_base ho1) hb)
                    have n1_ := Aside0.mk (Kd.V_elder' (by (with_reducible repeat (first | apply Kd.V_alloc | apply Kd.V_drewN | apply Kd.V_drew)); exact HO_159002.out) (Kd.N_base ho1) hb)
                    have n2_ := Aside0.mk (Kd.V_lower (Kd.V_mono (ok' := fun k_ => (w.heap.size ≤ k_) ∧ some k_ ≠ (v166 : Value).ownBlock ∧ some k_ ≠ (u5 : Value).ownBlock ∧ k_ ≠ gb157 ∧ k_ ≠ gb158 ∧ k_ ≠ gb168) ho0 (fun k_ hk_ => ⟨Or.elim hk_.1 (fun hs_ => hs_.1.1) (fun hn_ => (Nat.le_trans (below_size (by repeat (first | (with_reducible first | exact HB.out | apply below_alloc | apply pw_below_drewN | apply below_drew1 | refine below_set ?_ GE157.out | refine below_set ?_ GE158.out | refine below_set ?_ GE168.out) | exact HB.out))) hn_)), hk_.2, Or.elim hk_.1 (fun hs_ => hs_.1.2.1) (fun hn_ => (Kd.fresh' (Kd.N_lt (by (with_reducible repeat (first | apply Kd.N_alloc | apply Kd.N_drewN | apply Kd.N_drew)); exact HO_5.out)) k_ hn_)), Or.elim hk_.1 (fun hs_ => hs_.1.2.2.1) (fun hn_ => (Kd.freshB (g := gb157) (o := .cells #[.int .i64 0, .string (⟨#[]⟩ : ByteArray), .slice none 0 0] 39 (0, 0)) (by (with_reducible repeat (first | refine blk_drewN ?_ _ | refine blk_drew ?_ | refine blk_alloc ?_ _)); exact BK157.out) k_ hn_)), Or.elim hk_.1 (fun hs_ => hs_.1.2.2.2) (fun hn_ => (Kd.freshB (g := gb158) (o := .cells #[.int .i64 x159000_1, .string x159001_1, .slice Ao14 x159002_1.length co14] 39 (0, 0)) (by (with_reducible repeat (first | refine blk_drewN ?_ _ | refine blk_drew ?_ | refine blk_alloc ?_ _)); exact BK158.out) k_ hn_)), Or.elim hk_.1 (fun hs_ => hs_.2) (fun hn_ => (Kd.freshB (g := gb168) (o := .cells #[.int .i64 0, .string (⟨#[]⟩ : ByteArray), .slice none 0 0] 39 (0, 0)) (by (with_reducible repeat (first | refine blk_drewN ?_ _ | refine blk_drew ?_ | refine blk_alloc ?_ _)); exact BK168.out) k_ hn_))⟩)) (below_size (by repeat (first | (with_reducible first | exact HB.out | apply below_alloc | apply pw_below_drewN | apply below_drew1 | refine below_set ?_ GE157.out | refine below_set ?_ GE158.out | refine below_set ?_ GE168.out) | exact HB.out))))
                    have n3_ := Aside0.mk (Kd.N_lower (Kd.N_mono (ok' := fun k_ => (w.heap.size ≤ k_) ∧ some k_ ≠ (u5 : Value).ownBlock ∧ k_ ≠ gb157 ∧ k_ ≠ gb158 ∧ k_ ≠ gb168) ho1 (fun k_ hk_ => ⟨Or.elim hk_ (fun hs_ => hs_.1.1) (fun hn_ => (Nat.le_trans (below_size (by repeat (first | (with_reducible first | exact HB.out | apply below_alloc | apply pw_below_drewN | apply below_drew1 | refine below_set ?_ GE157.out | refine below_set ?_ GE158.out | refine below_set ?_ GE168.out) | exact HB.out))) hn_)), Or.elim hk_ (fun hs_ => hs_.1.2.1) (fun hn_ => (Kd.fresh' (Kd.N_lt (by (with_reducible repeat (first | apply Kd.N_alloc | apply Kd.N_drewN | apply Kd.N_drew)); exact HO_5.out)) k_ hn_)), Or.elim hk_ (fun hs_ => hs_.1.2.2.1) (fun hn_ => (Kd.freshB (g := gb157) (o := .cells #[.int .i64 0, .string (⟨#[]⟩ : ByteArray), .slice none 0 0] 39 (0, 0)) (by (with_reducible repeat (first | refine blk_drewN ?_ _ | refine blk_drew ?_ | refine blk_alloc ?_ _)); exact BK157.out) k_ hn_)), Or.elim hk_ (fun hs_ => hs_.1.2.2.2) (fun hn_ => (Kd.freshB (g := gb158) (o := .cells #[.int .i64 x159000_1, .string x159001_1, .slice Ao14 x159002_1.length co14] 39 (0, 0)) (by (with_reducible repeat (first | refine blk_drewN ?_ _ | refine blk_drew ?_ | refine blk_alloc ?_ _)); exact BK158.out) k_ hn_)), Or.elim hk_ (fun hs_ => hs_.2) (fun hn_ => (Kd.freshB (g := gb168) (o := .cells #[.int .i64 0, .string (⟨#[]⟩ : ByteArray), .slice none 0 0] 39 (0, 0)) (by (with_reducible repeat (first | refine blk_drewN ?_ _ | refine blk_drew ?_ | refine blk_alloc ?_ _)); exact BK168.out) k_ hn_))⟩)) (below_size (by repeat (first | (with_reducible first | exact HB.out | apply below_alloc | apply pw_below_drewN | apply below_drew1 | refine below_set ?_ GE157.out | refine below_set ?_ GE158.out | refine below_set ?_ GE168.out) | exact HB.out))))
                    have n4_ := Aside0.mk (blk_below (g := gb157) (o := .cells #[.int .i64 0, .string (⟨#[]⟩ : ByteArray), .slice none 0 0] 39 (0, 0)) (by (with_reducible repeat (first | refine blk_drewN ?_ _ | refine blk_drew ?_ | refine blk_alloc ?_ _)); exact BK157.out) hb)
                    have n5_ := Aside0.mk (blk_below (g := gb158) (o := .cells #[.int .i64 x159000_1, .string x159001_1, .slice Ao14 x159002_1.length co14] 39 (0, 0)) (by (with_reducible repeat (first | refine blk_drewN ?_ _ | refine blk_drew ?_ | refine blk_alloc ?_ _)); exact BK158.out) hb)
                    have n6_ := Aside0.mk (blk_below (g := gb168) (o := .cells #[.int .i64 0, .string (⟨#[]⟩ : ByteArray), .slice none 0 0] 39 (0, 0)) (by (with_reducible repeat (first | refine blk_drewN ?_ _ | refine blk_drew ?_ | refine blk_alloc ?_ _)); exact BK168.out) hb)
                    have n7_ := Aside0.mk (below_step (by repeat (first | (with_reducible first | exact HB.out | apply below_alloc | apply pw_below_drewN | apply below_drew1 | refine below_set ?_ GE157.out | refine below_set ?_ GE158.out | refine below_set ?_ GE168.out) | exact HB.out)) hb)
                    clear HO_5
                    clear HO_159002
                    clear BK157
                    clear BK158
                    clear BK168
                    clear HB
                    have HO_5 := n0_
                    have HO_159002 := n1_
                    have HO164 := n2_
                    have HO167 := n3_
                    have BK157 := n4_
                    have BK158 := n5_
                    have BK168 := n6_
                    have HB := n7_
                    clear n0_ n1_ n2_ n3_ n4_ n5_ n6_ n7_
                    (try clear hb)
                    (try clear hb2)
                    (try clear hk)
                    (try clear hi)
                    (try clear ho0)
                    (try clear ho1)
                    refine hK.out _ _ ⟨(blk_cell BK158.out 0).trans rfl, (blk_cell BK158.out 1).trans rfl, (blk_cell BK158.out 2).trans rfl, ((HB.out.cell (World.block_lt_of_cell? w _ hw159_0)).trans (by first | exact hw159_0 | (rw [hw159_0, ← Nbq10.out]))), ((HB.out.cell (World.block_lt_of_cell? w _ hw159_1)).trans (by first | exact hw159_1 | (rw [hw159_1, ← Nbq10.out])))⟩ (fun hHeld => ?_)
                    clear hK K
                    refine norm_ (a' := ?_) ?_ ?_
                    rotate_left
                    · show Act.put _ (some 23) _ = _
                      simp only [Act.put, List.setIfInBounds_toArray, List.set_cons_zero, List.set_cons_succ, i64_w, i32_w]
                      rfl
                    refine pure_ (i := 7) (N := some 16) (v := ?_) (a' := ?_) #[true, true, true, true, true, true, true, true, false, false, true, false, false] rfl rfl (any_of HT_.out (by kernel_rfl)) (fun _ _ _ h => h) (Or.inl ⟨by rfl, ?_⟩) ?_ ?_
                    rotate_left
                    · intro w'
                      go_simp
                      with_reducible rfl
                    rotate_left
                    · simp only [Act.put, List.setIfInBounds_toArray, List.set_cons_zero, List.set_cons_succ, i64_w, i32_w]
                      rfl
                    refine pure_ (i := 8) (N := some 24) (v := ?_) (a' := ?_) #[true, true, true, true, true, true, true, true, true, false, true, false, false] rfl rfl (any_of HT_.out (by kernel_rfl)) (fun _ _ _ h => h) (Or.inl ⟨by rfl, ?_⟩) ?_ ?_
                    rotate_left
                    · intro w'
                      go_simp
                      with_reducible rfl
                    rotate_left
                    · simp only [Act.put, List.setIfInBounds_toArray, List.set_cons_zero, List.set_cons_succ, i64_w, i32_w]
                      rfl
                    refine pure_ (i := 9) (N := some 25) (v := ?_) (a' := ?_) #[true, true, true, true, true, true, true, true, true, true, true, false, false] rfl rfl (any_of HT_.out (by kernel_rfl)) (fun _ _ _ h => h) (Or.inl ⟨by rfl, ?_⟩) ?_ ?_
                    rotate_left
                    · intro w'
                      go_simp
                      with_reducible rfl
                    rotate_left
                    · simp only [Act.put, List.setIfInBounds_toArray, List.set_cons_zero, List.set_cons_succ, i64_w, i32_w]
                      rfl
                    exact norm_ (by simp only [putAll, Act.put, List.setIfInBounds_toArray, List.set_cons_zero, List.set_cons_succ]) (hCont (v163, v166, gb168) _ ⟨hHeld, (by (with_reducible repeat (first | apply Kd.V_alloc | apply Kd.V_drewN | apply Kd.V_drew)); exact HO164.out), (by (with_reducible repeat (first | apply Kd.N_alloc | apply Kd.N_drewN | apply Kd.N_drew)); exact HO167.out), (by (with_reducible repeat (first | apply Kd.V_alloc | apply Kd.V_drewN | apply Kd.V_drew)); exact Kd.V_mono HO_159002.out (fun _ hk => ⟨hk.1.1.1, ⟨hk.2, ⟨hk.1.1.2.1, ⟨hk.1.1.2.2.1, ⟨hk.1.1.2.2.2, hk.1.2⟩⟩⟩⟩⟩)), (by (with_reducible repeat (first | apply Kd.N_alloc | apply Kd.N_drewN | apply Kd.N_drew)); exact Kd.N_mono HO_5.out (fun _ hk => ⟨hk.1.1.1, ⟨hk.2, ⟨hk.1.1.2.1, ⟨hk.1.1.2.2, hk.1.2⟩⟩⟩⟩)), (by (with_reducible repeat (first | refine blk_drewN ?_ _ | refine blk_drew ?_ | refine blk_alloc ?_ _)); exact BK157.out), (by (with_reducible repeat (first | refine blk_drewN ?_ _ | refine blk_drew ?_ | refine blk_alloc ?_ _)); exact BK158.out), (by (with_reducible repeat (first | refine blk_drewN ?_ _ | refine blk_drew ?_ | refine blk_alloc ?_ _)); exact BK168.out), GW168.out, GE168.out, NB157_168.out, NB168_157.out, NB158_168.out, NB168_158.out, (by repeat (first | (with_reducible first | exact HB.out | apply below_alloc | apply pw_below_drewN | apply below_drew1 | refine below_set ?_ GE157.out | refine below_set ?_ GE158.out | refine below_set ?_ GE168.out) | exact HB.out))⟩)
                rintro ⟨v163, v166, gb168⟩ w18 ⟨hS_, h0_, h1_, h2_, h3_, h4_, h5_, h6_, h7_, h8_, h9_, h10_, h11_, h12_, h13_⟩
                have n0_ : Aside0 (Kd.V Kd.string 9 w18 w.heap.size (fun k_ => (w.heap.size ≤ k_) ∧ some k_ ≠ (v166 : Value).ownBlock ∧ some k_ ≠ (u5 : Value).ownBlock ∧ k_ ≠ gb157 ∧ k_ ≠ gb158 ∧ k_ ≠ gb168) v163 t162) := ⟨h0_⟩
                have n1_ : Aside0 (Kd.N k40 40 w18 w.heap.size (fun k_ => (w.heap.size ≤ k_) ∧ some k_ ≠ (u5 : Value).ownBlock ∧ k_ ≠ gb157 ∧ k_ ≠ gb158 ∧ k_ ≠ gb168) v166 t165) := ⟨h1_⟩
                have n2_ : Aside0 (Kd.V Kd.string 9 w18 w.heap.size (fun k_ => (w.heap.size ≤ k_) ∧ some k_ ≠ (v166 : Value).ownBlock ∧ some k_ ≠ (u5 : Value).ownBlock ∧ k_ ≠ gb157 ∧ k_ ≠ gb158 ∧ k_ ≠ gb168) (.slice Ao14 x159002_1.length co14) x159002_1) := ⟨h2_⟩
                have n3_ : Aside0 (Kd.N k40 40 w18 w.heap.size (fun k_ => (w.heap.size ≤ k_) ∧ some k_ ≠ (v166 : Value).ownBlock ∧ k_ ≠ gb157 ∧ k_ ≠ gb158 ∧ k_ ≠ gb168) u5 x5_1) := ⟨h3_⟩
                have n4_ : Aside0 (w18.heap[gb157]? = some (.cells #[.int .i64 0, .string (⟨#[]⟩ : ByteArray), .slice none 0 0] 39 (0, 0))) := ⟨h4_⟩
                have n5_ : Aside0 (w18.heap[gb158]? = some (.cells #[.int .i64 x159000_1, .string x159001_1, .slice Ao14 x159002_1.length co14] 39 (0, 0))) := ⟨h5_⟩
                have n6_ : Aside0 (w18.heap[gb168]? = some (.cells #[.int .i64 0, .string (⟨#[]⟩ : ByteArray), .slice none 0 0] 39 (0, 0))) := ⟨h6_⟩
                have n7_ : Aside0 (w.heap.size ≤ gb168) := ⟨h7_⟩
                have n8_ : Aside0 (w.heap.size ≤ gb168) := ⟨h8_⟩
                have n9_ : Aside0 (gb157 ≠ gb168) := ⟨h9_⟩
                have n10_ : Aside0 (gb168 ≠ gb157) := ⟨h10_⟩
                have n11_ : Aside0 (gb158 ≠ gb168) := ⟨h11_⟩
                have n12_ : Aside0 (gb168 ≠ gb158) := ⟨h12_⟩
                have n13_ : Aside0 (Below w.heap.size w w18) := ⟨h13_⟩
                clear HO_5
                clear HO_159002
                clear BK157
                clear BK158
                clear HB
                clear h0_ h1_ h2_ h3_ h4_ h5_ h6_ h7_ h8_ h9_ h10_ h11_ h12_ h13_
                have HO164 := n0_
                have HO167 := n1_
                have HO_159002 := n2_
                have HO_5 := n3_
                have BK157 := n4_
                have BK158 := n5_
                have BK168 := n6_
                have GW168 := n7_
                have GE168 := n8_
                have NB157_168 := n9_
                have NB168_157 := n10_
                have NB158_168 := n11_
                have NB168_158 := n12_
                have HB := n13_
                clear n0_ n1_ n2_ n3_ n4_ n5_ n6_ n7_ n8_ n9_ n10_ n11_ n12_ n13_
                have hHeld : w18.cell? ⟨gb158, 0, none⟩ = some (.int .i64 x159000_1) ∧ w18.cell? ⟨gb158, 1, none⟩ = some (.string x159001_1) ∧ w18.cell? ⟨gb158, 2, none⟩ = some (.slice Ao14 x159002_1.length co14) ∧ w18.cell? (ad159.add ((x6_1).toNat * 2)) = some (.slice A159_0 ((rd_T56 l0 x6_1).f0).length c159_0) ∧ w18.cell? ⟨(ad159.add ((x6_1).toNat * 2)).block, (ad159.add ((x6_1).toNat * 2)).off + 1, none⟩ = some (.bool true) := hS_
                obtain ⟨Ao21, co21, eo21⟩ := Kd.V_slice HO164.out
                (first | subst eo21 | (injection eo21 with f1_ f2_ f3_; have f4_ := f1_.symm; have f5_ := f3_.symm; clear f1_ f2_ f3_; subst f4_; subst f5_))
                refine norm_ (a' := ?_) ?_ ?_
                rotate_left
                · simp only [putAll, Act.put, List.setIfInBounds_toArray, List.set_cons_zero, List.set_cons_succ]
                  rfl
                refine one_ (i := 11) (N := none) #[true, true, true, true, true, true, true, true, true, true, true, true, false] rfl rfl (one_of HT_.out (by kernel_rfl)) (by decide) (fun K hK => ?_)
                have hs19 : w18.cell? ⟨gb168, 0, none⟩ = some (.int .i64 0) := (blk_cell BK168.out 0).trans rfl
                have hfs19 := blk_frozen BK168.out 0
                have hns19_0 := NB157_168.out
                have hns19_1 := NB158_168.out
                have hms19_0 := NB168_157.out
                have hms19_1 := NB168_158.out
                have hs20 : w18.cell? ⟨gb168, 1, none⟩ = some (.string (⟨#[]⟩ : ByteArray)) := (blk_cell BK168.out 1).trans rfl
                have hfs20 := blk_frozen BK168.out 1
                have hns20_0 := NB157_168.out
                have hns20_1 := NB158_168.out
                have hms20_0 := NB168_157.out
                have hms20_1 := NB168_158.out
                have hs22 : w18.cell? ⟨gb168, 2, none⟩ = some (.slice none 0 0) := (blk_cell BK168.out 2).trans rfl
                have hfs22 := blk_frozen BK168.out 2
                have hns22_0 := NB157_168.out
                have hns22_1 := NB158_168.out
                have hms22_0 := NB168_157.out
                have hms22_1 := NB168_158.out
                refine skip_ (w1 := ?_) (by rfl) rfl ?_ ?_
                rotate_left
                · go_simp
                  rfl
                refine hK.out _ _ ⟨((cell_far (p := ⟨gb168, _, none⟩) NB158_168.out _).trans (((cell_far (p := ⟨gb168, _, none⟩) NB158_168.out _).trans (((cell_far (p := ⟨gb168, _, none⟩) NB158_168.out _).trans (hHeld.1)))))), ((cell_far (p := ⟨gb168, _, none⟩) NB158_168.out _).trans (((cell_far (p := ⟨gb168, _, none⟩) NB158_168.out _).trans (((cell_far (p := ⟨gb168, _, none⟩) NB158_168.out _).trans (hHeld.2.1)))))), ((cell_far (p := ⟨gb168, _, none⟩) NB158_168.out _).trans (((cell_far (p := ⟨gb168, _, none⟩) NB158_168.out _).trans (((cell_far (p := ⟨gb168, _, none⟩) NB158_168.out _).trans (hHeld.2.2.1)))))), ((cell_far (p := ⟨gb168, _, none⟩) (by first | exact Nat.ne_of_lt (Nat.lt_of_lt_of_le (by have := World.block_lt_of_cell? _ _ hw159_0; first | rwa [add_block] at this | exact this) GW168.out) | (rw [add_block]; exact Nat.ne_of_lt (Nat.lt_of_lt_of_le (by have := World.block_lt_of_cell? _ _ hw159_0; first | rwa [add_block] at this | exact this) GW168.out)) | (show (Addr.add _ _).block ≠ _; rw [add_block]; exact Nat.ne_of_lt (Nat.lt_of_lt_of_le (by have := World.block_lt_of_cell? _ _ hw159_0; first | rwa [add_block] at this | exact this) GW168.out)) | (dsimp only; exact Nat.ne_of_lt (Nat.lt_of_lt_of_le (by have := World.block_lt_of_cell? _ _ hw159_0; first | rwa [add_block] at this | exact this) GW168.out))) _).trans (((cell_far (p := ⟨gb168, _, none⟩) (by first | exact Nat.ne_of_lt (Nat.lt_of_lt_of_le (by have := World.block_lt_of_cell? _ _ hw159_0; first | rwa [add_block] at this | exact this) GW168.out) | (rw [add_block]; exact Nat.ne_of_lt (Nat.lt_of_lt_of_le (by have := World.block_lt_of_cell? _ _ hw159_0; first | rwa [add_block] at this | exact this) GW168.out)) | (show (Addr.add _ _).block ≠ _; rw [add_block]; exact Nat.ne_of_lt (Nat.lt_of_lt_of_le (by have := World.block_lt_of_cell? _ _ hw159_0; first | rwa [add_block] at this | exact this) GW168.out)) | (dsimp only; exact Nat.ne_of_lt (Nat.lt_of_lt_of_le (by have := World.block_lt_of_cell? _ _ hw159_0; first | rwa [add_block] at this | exact this) GW168.out))) _).trans (((cell_far (p := ⟨gb168, _, none⟩) (by first | exact Nat.ne_of_lt (Nat.lt_of_lt_of_le (by have := World.block_lt_of_cell? _ _ hw159_0; first | rwa [add_block] at this | exact this) GW168.out) | (rw [add_block]; exact Nat.ne_of_lt (Nat.lt_of_lt_of_le (by have := World.block_lt_of_cell? _ _ hw159_0; first | rwa [add_block] at this | exact this) GW168.out)) | (show (Addr.add _ _).block ≠ _; rw [add_block]; exact Nat.ne_of_lt (Nat.lt_of_lt_of_le (by have := World.block_lt_of_cell? _ _ hw159_0; first | rwa [add_block] at this | exact this) GW168.out)) | (dsimp only; exact Nat.ne_of_lt (Nat.lt_of_lt_of_le (by have := World.block_lt_of_cell? _ _ hw159_0; first | rwa [add_block] at this | exact this) GW168.out))) _).trans (hHeld.2.2.2.1)))))), ((cell_far (p := ⟨gb168, _, none⟩) (by first | exact Nat.ne_of_lt (Nat.lt_of_lt_of_le (by have := World.block_lt_of_cell? _ _ hw159_1; first | rwa [add_block] at this | exact this) GW168.out) | (rw [add_block]; exact Nat.ne_of_lt (Nat.lt_of_lt_of_le (by have := World.block_lt_of_cell? _ _ hw159_1; first | rwa [add_block] at this | exact this) GW168.out)) | (show (Addr.add _ _).block ≠ _; rw [add_block]; exact Nat.ne_of_lt (Nat.lt_of_lt_of_le (by have := World.block_lt_of_cell? _ _ hw159_1; first | rwa [add_block] at this | exact this) GW168.out)) | (dsimp only; exact Nat.ne_of_lt (Nat.lt_of_lt_of_le (by have := World.block_lt_of_cell? _ _ hw159_1; first | rwa [add_block] at this | exact this) GW168.out))) _).trans (((cell_far (p := ⟨gb168, _, none⟩) (by first | exact Nat.ne_of_lt (Nat.lt_of_lt_of_le (by have := World.block_lt_of_cell? _ _ hw159_1; first | rwa [add_block] at this | exact this) GW168.out) | (rw [add_block]; exact Nat.ne_of_lt (Nat.lt_of_lt_of_le (by have := World.block_lt_of_cell? _ _ hw159_1; first | rwa [add_block] at this | exact this) GW168.out)) | (show (Addr.add _ _).block ≠ _; rw [add_block]; exact Nat.ne_of_lt (Nat.lt_of_lt_of_le (by have := World.block_lt_of_cell? _ _ hw159_1; first | rwa [add_block] at this | exact this) GW168.out)) | (dsimp only; exact Nat.ne_of_lt (Nat.lt_of_lt_of_le (by have := World.block_lt_of_cell? _ _ hw159_1; first | rwa [add_block] at this | exact this) GW168.out))) _).trans (((cell_far (p := ⟨gb168, _, none⟩) (by first | exact Nat.ne_of_lt (Nat.lt_of_lt_of_le (by have := World.block_lt_of_cell? _ _ hw159_1; first | rwa [add_block] at this | exact this) GW168.out) | (rw [add_block]; exact Nat.ne_of_lt (Nat.lt_of_lt_of_le (by have := World.block_lt_of_cell? _ _ hw159_1; first | rwa [add_block] at this | exact this) GW168.out)) | (show (Addr.add _ _).block ≠ _; rw [add_block]; exact Nat.ne_of_lt (Nat.lt_of_lt_of_le (by have := World.block_lt_of_cell? _ _ hw159_1; first | rwa [add_block] at this | exact this) GW168.out)) | (dsimp only; exact Nat.ne_of_lt (Nat.lt_of_lt_of_le (by have := World.block_lt_of_cell? _ _ hw159_1; first | rwa [add_block] at this | exact this) GW168.out))) _).trans (hHeld.2.2.2.2))))))⟩ (fun hHeld => ?_)
                clear hK K
                refine pure_ (i := 12) (N := some 8) (v := ?_) (a' := ?_) #[true, true, true, true, true, true, true, true, true, true, true, true, true] rfl rfl (any_of HT_.out (by kernel_rfl)) (fun _ _ _ h => h) (Or.inl ⟨by rfl, ?_⟩) ?_ ?_
                rotate_left
                · intro w'
                  go_simp
                  with_reducible rfl
                rotate_left
                · simp only [Act.put, List.setIfInBounds_toArray, List.set_cons_zero, List.set_cons_succ, i64_w, i32_w]
                  rfl
                refine done_ (done_of HT_.out (by kernel_rfl)) ?_
                have hnb23 := NB168_157.out
                have hnc23 := NB157_168.out
                have hnb24 := NB168_158.out
                have hnc24 := NB158_168.out
                have hcz25_0 : w18.cell? ⟨gb168, 0, none⟩ = some (.int .i64 0) := (blk_cell BK168.out 0).trans rfl
                have hcz25_1 : w18.cell? ⟨gb168, 1, none⟩ = some (.string (⟨#[]⟩ : ByteArray)) := (blk_cell BK168.out 1).trans rfl
                have hcz25_2 : w18.cell? ⟨gb168, 2, none⟩ = some (.slice none 0 0) := (blk_cell BK168.out 2).trans rfl
                have hfz25_0 := blk_frozen BK168.out 0
                have hfz25_1 := blk_frozen BK168.out 1
                have hfz25_2 := blk_frozen BK168.out 2
                have hnb26 := NB158_157.out
                have hnc26 := NB157_158.out
                have hcz27_0 : w18.cell? ⟨gb158, 0, none⟩ = some (.int .i64 x159000_1) := (blk_cell BK158.out 0).trans rfl
                have hcz27_1 : w18.cell? ⟨gb158, 1, none⟩ = some (.string x159001_1) := (blk_cell BK158.out 1).trans rfl
                have hcz27_2 : w18.cell? ⟨gb158, 2, none⟩ = some (.slice Ao14 x159002_1.length co14) := (blk_cell BK158.out 2).trans rfl
                have hfz27_0 := blk_frozen BK158.out 0
                have hfz27_1 := blk_frozen BK158.out 1
                have hfz27_2 := blk_frozen BK158.out 2
                obtain ⟨Ao29, co29, eo29⟩ := Kd.N_slice HO167.out
                subst eo29
                try go_wp2_with (first | ((with_reducible refine gate_builtin (b := .append) (xs := #[.tmp 27, .tmp 28]) rfl ?_); at_builtin; refine Kd.N_append_rows k40 (w0 := w) w.heap.size rfl (.tmp 27) (.tmp 28) 43 40 (.agg #[(.int .i64 0), (.string ⟨#[]⟩), (.slice none 0 0)]) 48 rfl Try.underlying43 info40 rfl (by decide) (by omega) u5 x5_1 t165 _ _ _ (fun k_ => (w.heap.size ≤ k_) ∧ k_ ≠ gb157 ∧ k_ ≠ gb158 ∧ k_ ≠ gb168) (fun k_ => ((fun k_ => (w.heap.size ≤ k_) ∧ k_ ≠ gb157 ∧ k_ ≠ gb158 ∧ k_ ≠ gb168)) k_ ∧ some k_ ≠ (u5 : Value).ownBlock) rfl rfl ?aO ?aR (fun _ hk => hk) ?aF ?aB ?aS ?aL ?_; (case aR => exact (by skip; exact Kd.N_F (Kd.N_mono (ok' := (fun k_ => ((fun k_ => (w.heap.size ≤ k_) ∧ k_ ≠ gb157 ∧ k_ ≠ gb158 ∧ k_ ≠ gb168)) k_ ∧ some k_ ≠ (u5 : Value).ownBlock)) ((Kd.N_far (p := ⟨gb158, 2, none⟩) (Kd.N_far (p := ⟨gb158, 1, none⟩) (Kd.N_far (p := ⟨gb158, 0, none⟩) (Kd.N_far (p := ⟨gb168, 2, none⟩) (Kd.N_far (p := ⟨gb168, 1, none⟩) (Kd.N_far (p := ⟨gb168, 0, none⟩) (Kd.N_mono (Kd.N_mono HO167.out (fun k_ hk => (⟨hk, hk.2.2.2.2⟩ : _ ∧ k_ ≠ gb168))) (fun k_ hk => (⟨hk, hk.1.2.2.2.1⟩ : _ ∧ k_ ≠ gb158))) (fun _ hk => hk.1.2) (.int .i64 t160)) (fun _ hk => hk.1.2) (.string t161)) (fun _ hk => hk.1.2) (.slice Ao21 t162.length co21)) (fun _ hk => hk.2) (.int .i64 t160)) (fun _ hk => hk.2) (.string t161)) (fun _ hk => hk.2) (.slice Ao21 t162.length co21))) (fun k_ hk => ⟨⟨hk.1.1.1, ⟨hk.1.1.2.2.1, ⟨hk.1.1.2.2.2.1, hk.1.1.2.2.2.2⟩⟩⟩, hk.1.1.2.1⟩)))); (case aB => exact (by repeat (first | (with_reducible first | exact HB.out | apply below_alloc | apply pw_below_drewN | apply below_drew1 | refine below_set ?_ GE157.out | refine below_set ?_ GE158.out | refine below_set ?_ GE168.out) | exact HB.out))); (case aF => exact (fun k_ hk => ⟨(Nat.le_trans (below_size (by repeat (first | (with_reducible first | exact HB.out | apply below_alloc | apply pw_below_drewN | apply below_drew1 | refine below_set ?_ GE157.out | refine below_set ?_ GE158.out | refine below_set ?_ GE168.out) | exact HB.out))) hk), Kd.freshB (g := gb157) (o := .cells #[.int .i64 0, .string (⟨#[]⟩ : ByteArray), .slice none 0 0] 39 (0, 0)) (by (with_reducible repeat (first | refine blk_drewN ?_ _ | refine blk_drew ?_ | refine blk_alloc ?_ _)); refine blk_far ?_ NB157_158.out _; (with_reducible repeat (first | refine blk_drewN ?_ _ | refine blk_drew ?_ | refine blk_alloc ?_ _)); refine blk_far ?_ NB157_158.out _; (with_reducible repeat (first | refine blk_drewN ?_ _ | refine blk_drew ?_ | refine blk_alloc ?_ _)); refine blk_far ?_ NB157_158.out _; (with_reducible repeat (first | refine blk_drewN ?_ _ | refine blk_drew ?_ | refine blk_alloc ?_ _)); refine blk_far ?_ NB157_168.out _; (with_reducible repeat (first | refine blk_drewN ?_ _ | refine blk_drew ?_ | refine blk_alloc ?_ _)); refine blk_far ?_ NB157_168.out _; (with_reducible repeat (first | refine blk_drewN ?_ _ | refine blk_drew ?_ | refine blk_alloc ?_ _)); refine blk_far ?_ NB157_168.out _; (with_reducible repeat (first | refine blk_drewN ?_ _ | refine blk_drew ?_ | refine blk_alloc ?_ _)); exact BK157.out) k_ hk, Kd.freshB (g := gb158) (o := .cells #[.int .i64 t160, .string t161, .slice Ao21 t162.length co21] 39 (0, 0)) (by (with_reducible repeat (first | refine blk_drewN ?_ _ | refine blk_drew ?_ | refine blk_alloc ?_ _)); refine blk_put (cs := #[.int .i64 t160, .string t161, .slice Ao14 x159002_1.length co14]) ?_ 2 _ rfl; (with_reducible repeat (first | refine blk_drewN ?_ _ | refine blk_drew ?_ | refine blk_alloc ?_ _)); refine blk_put (cs := #[.int .i64 t160, .string x159001_1, .slice Ao14 x159002_1.length co14]) ?_ 1 _ rfl; (with_reducible repeat (first | refine blk_drewN ?_ _ | refine blk_drew ?_ | refine blk_alloc ?_ _)); refine blk_put (cs := #[.int .i64 x159000_1, .string x159001_1, .slice Ao14 x159002_1.length co14]) ?_ 0 _ rfl; (with_reducible repeat (first | refine blk_drewN ?_ _ | refine blk_drew ?_ | refine blk_alloc ?_ _)); refine blk_far ?_ NB158_168.out _; (with_reducible repeat (first | refine blk_drewN ?_ _ | refine blk_drew ?_ | refine blk_alloc ?_ _)); refine blk_far ?_ NB158_168.out _; (with_reducible repeat (first | refine blk_drewN ?_ _ | refine blk_drew ?_ | refine blk_alloc ?_ _)); refine blk_far ?_ NB158_168.out _; (with_reducible repeat (first | refine blk_drewN ?_ _ | refine blk_drew ?_ | refine blk_alloc ?_ _)); exact BK158.out) k_ hk, Kd.freshB (g := gb168) (o := .cells #[.int .i64 t160, .string t161, .slice Ao21 t162.length co21] 39 (0, 0)) (by (with_reducible repeat (first | refine blk_drewN ?_ _ | refine blk_drew ?_ | refine blk_alloc ?_ _)); refine blk_far ?_ NB168_158.out _; (with_reducible repeat (first | refine blk_drewN ?_ _ | refine blk_drew ?_ | refine blk_alloc ?_ _)); refine blk_far ?_ NB168_158.out _; (with_reducible repeat (first | refine blk_drewN ?_ _ | refine blk_drew ?_ | refine blk_alloc ?_ _)); refine blk_far ?_ NB168_158.out _; (with_reducible repeat (first | refine blk_drewN ?_ _ | refine blk_drew ?_ | refine blk_alloc ?_ _)); refine blk_put (cs := #[.int .i64 t160, .string t161, .slice none 0 0]) ?_ 2 _ rfl; (with_reducible repeat (first | refine blk_drewN ?_ _ | refine blk_drew ?_ | refine blk_alloc ?_ _)); refine blk_put (cs := #[.int .i64 t160, .string (⟨#[]⟩ : ByteArray), .slice none 0 0]) ?_ 1 _ rfl; (with_reducible repeat (first | refine blk_drewN ?_ _ | refine blk_drew ?_ | refine blk_alloc ?_ _)); refine blk_put (cs := #[.int .i64 0, .string (⟨#[]⟩ : ByteArray), .slice none 0 0]) ?_ 0 _ rfl; (with_reducible repeat (first | refine blk_drewN ?_ _ | refine blk_drew ?_ | refine blk_alloc ?_ _)); exact BK168.out) k_ hk⟩)); (case aO => exact (by (with_reducible repeat (first | apply Kd.N_alloc | apply Kd.N_drewN | apply Kd.N_drew)); exact Kd.N_mono (Kd.N_far (p := ⟨gb158, 2, none⟩) (Kd.N_far (p := ⟨gb158, 1, none⟩) (Kd.N_far (p := ⟨gb158, 0, none⟩) (Kd.N_far (p := ⟨gb168, 2, none⟩) (Kd.N_far (p := ⟨gb168, 1, none⟩) (Kd.N_far (p := ⟨gb168, 0, none⟩) (Kd.N_mono (Kd.N_mono HO_5.out (fun k_ hk => (⟨hk, hk.2.2.2.2⟩ : _ ∧ k_ ≠ gb168))) (fun k_ hk => (⟨hk, hk.1.2.2.2.1⟩ : _ ∧ k_ ≠ gb158))) (fun _ hk => hk.1.2) (.int .i64 t160)) (fun _ hk => hk.1.2) (.string t161)) (fun _ hk => hk.1.2) (.slice Ao21 t162.length co21)) (fun _ hk => hk.2) (.int .i64 t160)) (fun _ hk => hk.2) (.string t161)) (fun _ hk => hk.2) (.slice Ao21 t162.length co21)) (fun _ hk => ⟨hk.1.1.1, ⟨hk.1.1.2.2.1, ⟨hk.1.1.2.2.2.1, hk.1.1.2.2.2.2⟩⟩⟩))); (case aS => exact (below_size (by repeat (first | (with_reducible first | exact HB.out | apply below_alloc | apply pw_below_drewN | apply below_drew1 | refine below_set ?_ GE157.out | refine below_set ?_ GE158.out | refine below_set ?_ GE168.out) | exact HB.out)))); (case aL => have := LMc9.out; omega); intro v170 w28 ho hb hg hat; rw [← Ny169.out] at ho; have n0_ := Aside0.mk (Kd.V_afterv (ok := (fun k_ => (w.heap.size ≤ k_) ∧ some k_ ≠ (.slice Ao29 t165.length co29 : Value).ownBlock ∧ k_ ≠ gb157 ∧ k_ ≠ gb158 ∧ k_ ≠ gb168)) (by (with_reducible repeat (first | apply Kd.V_alloc | apply Kd.V_drewN | apply Kd.V_drew)); exact Kd.V_mono (Kd.V_far (p := ⟨gb158, 2, none⟩) (Kd.V_far (p := ⟨gb158, 1, none⟩) (Kd.V_far (p := ⟨gb158, 0, none⟩) (Kd.V_far (p := ⟨gb168, 2, none⟩) (Kd.V_far (p := ⟨gb168, 1, none⟩) (Kd.V_far (p := ⟨gb168, 0, none⟩) (Kd.V_mono (Kd.V_mono HO_159002.out (fun k_ hk => (⟨hk, hk.2.2.2.2.2⟩ : _ ∧ k_ ≠ gb168))) (fun k_ hk => (⟨hk, hk.1.2.2.2.2.1⟩ : _ ∧ k_ ≠ gb158))) (fun _ hk => hk.1.2) (.int .i64 t160)) (fun _ hk => hk.1.2) (.string t161)) (fun _ hk => hk.1.2) (.slice Ao21 t162.length co21)) (fun _ hk => hk.2) (.int .i64 t160)) (fun _ hk => hk.2) (.string t161)) (fun _ hk => hk.2) (.slice Ao21 t162.length co21)) (fun _ hk => ⟨⟨hk.1.1.1, ⟨hk.1.1.2.1, ⟨hk.1.1.2.2.2.1, ⟨hk.1.1.2.2.2.2.1, hk.1.1.2.2.2.2.2⟩⟩⟩⟩, hk.1.1.2.2.1⟩)) hg hat); have n1_ := Aside0.mk (blk_grown (g := gb157) (o := .cells #[.int .i64 0, .string (⟨#[]⟩ : ByteArray), .slice none 0 0] 39 (0, 0)) (by (with_reducible repeat (first | refine blk_drewN ?_ _ | refine blk_drew ?_ | refine blk_alloc ?_ _)); refine blk_far ?_ NB157_158.out _; (with_reducible repeat (first | refine blk_drewN ?_ _ | refine blk_drew ?_ | refine blk_alloc ?_ _)); refine blk_far ?_ NB157_158.out _; (with_reducible repeat (first | refine blk_drewN ?_ _ | refine blk_drew ?_ | refine blk_alloc ?_ _)); refine blk_far ?_ NB157_158.out _; (with_reducible repeat (first | refine blk_drewN ?_ _ | refine blk_drew ?_ | refine blk_alloc ?_ _)); refine blk_far ?_ NB157_168.out _; (with_reducible repeat (first | refine blk_drewN ?_ _ | refine blk_drew ?_ | refine blk_alloc ?_ _)); refine blk_far ?_ NB157_168.out _; (with_reducible repeat (first | refine blk_drewN ?_ _ | refine blk_drew ?_ | refine blk_alloc ?_ _)); refine blk_far ?_ NB157_168.out _; (with_reducible repeat (first | refine blk_drewN ?_ _ | refine blk_drew ?_ | refine blk_alloc ?_ _)); exact BK157.out) hg (Kd.N_ne HO_5.out BK157.out (by decide))); have n2_ := Aside0.mk (blk_grown (g := gb158) (o := .cells #[.int .i64 t160, .string t161, .slice Ao21 t162.length co21] 39 (0, 0)) (by (with_reducible repeat (first | refine blk_drewN ?_ _ | refine blk_drew ?_ | refine blk_alloc ?_ _)); refine blk_put (cs := #[.int .i64 t160, .string t161, .slice Ao14 x159002_1.length co14]) ?_ 2 _ rfl; (with_reducible repeat (first | refine blk_drewN ?_ _ | refine blk_drew ?_ | refine blk_alloc ?_ _)); refine blk_put (cs := #[.int .i64 t160, .string x159001_1, .slice Ao14 x159002_1.length co14]) ?_ 1 _ rfl; (with_reducible repeat (first | refine blk_drewN ?_ _ | refine blk_drew ?_ | refine blk_alloc ?_ _)); refine blk_put (cs := #[.int .i64 x159000_1, .string x159001_1, .slice Ao14 x159002_1.length co14]) ?_ 0 _ rfl; (with_reducible repeat (first | refine blk_drewN ?_ _ | refine blk_drew ?_ | refine blk_alloc ?_ _)); refine blk_far ?_ NB158_168.out _; (with_reducible repeat (first | refine blk_drewN ?_ _ | refine blk_drew ?_ | refine blk_alloc ?_ _)); refine blk_far ?_ NB158_168.out _; (with_reducible repeat (first | refine blk_drewN ?_ _ | refine blk_drew ?_ | refine blk_alloc ?_ _)); refine blk_far ?_ NB158_168.out _; (with_reducible repeat (first | refine blk_drewN ?_ _ | refine blk_drew ?_ | refine blk_alloc ?_ _)); exact BK158.out) hg (Kd.N_ne HO_5.out BK158.out (by decide))); have n3_ := Aside0.mk (Kd.V_afterv (ok := (fun k_ => (w.heap.size ≤ k_) ∧ some k_ ≠ (.slice Ao29 t165.length co29 : Value).ownBlock ∧ k_ ≠ gb157 ∧ k_ ≠ gb158 ∧ k_ ≠ gb168)) (by (with_reducible repeat (first | apply Kd.V_alloc | apply Kd.V_drewN | apply Kd.V_drew)); exact Kd.V_mono (Kd.V_far (p := ⟨gb158, 2, none⟩) (Kd.V_far (p := ⟨gb158, 1, none⟩) (Kd.V_far (p := ⟨gb158, 0, none⟩) (Kd.V_far (p := ⟨gb168, 2, none⟩) (Kd.V_far (p := ⟨gb168, 1, none⟩) (Kd.V_far (p := ⟨gb168, 0, none⟩) (Kd.V_mono (Kd.V_mono HO164.out (fun k_ hk => (⟨hk, hk.2.2.2.2.2⟩ : _ ∧ k_ ≠ gb168))) (fun k_ hk => (⟨hk, hk.1.2.2.2.2.1⟩ : _ ∧ k_ ≠ gb158))) (fun _ hk => hk.1.2) (.int .i64 t160)) (fun _ hk => hk.1.2) (.string t161)) (fun _ hk => hk.1.2) (.slice Ao21 t162.length co21)) (fun _ hk => hk.2) (.int .i64 t160)) (fun _ hk => hk.2) (.string t161)) (fun _ hk => hk.2) (.slice Ao21 t162.length co21)) (fun _ hk => ⟨⟨hk.1.1.1, ⟨hk.1.1.2.1, ⟨hk.1.1.2.2.2.1, ⟨hk.1.1.2.2.2.2.1, hk.1.1.2.2.2.2.2⟩⟩⟩⟩, hk.1.1.2.2.1⟩)) hg hat); have n4_ := Aside0.mk (Kd.N_afterv (ok := (fun k_ => (w.heap.size ≤ k_) ∧ k_ ≠ gb157 ∧ k_ ≠ gb158 ∧ k_ ≠ gb168)) (by (with_reducible repeat (first | apply Kd.N_alloc | apply Kd.N_drewN | apply Kd.N_drew)); exact Kd.N_mono (Kd.N_far (p := ⟨gb158, 2, none⟩) (Kd.N_far (p := ⟨gb158, 1, none⟩) (Kd.N_far (p := ⟨gb158, 0, none⟩) (Kd.N_far (p := ⟨gb168, 2, none⟩) (Kd.N_far (p := ⟨gb168, 1, none⟩) (Kd.N_far (p := ⟨gb168, 0, none⟩) (Kd.N_mono (Kd.N_mono HO167.out (fun k_ hk => (⟨hk, hk.2.2.2.2⟩ : _ ∧ k_ ≠ gb168))) (fun k_ hk => (⟨hk, hk.1.2.2.2.1⟩ : _ ∧ k_ ≠ gb158))) (fun _ hk => hk.1.2) (.int .i64 t160)) (fun _ hk => hk.1.2) (.string t161)) (fun _ hk => hk.1.2) (.slice Ao21 t162.length co21)) (fun _ hk => hk.2) (.int .i64 t160)) (fun _ hk => hk.2) (.string t161)) (fun _ hk => hk.2) (.slice Ao21 t162.length co21)) (fun _ hk => ⟨⟨hk.1.1.1, ⟨hk.1.1.2.2.1, ⟨hk.1.1.2.2.2.1, hk.1.1.2.2.2.2⟩⟩⟩, hk.1.1.2.1⟩)) hg hat); have n5_ := Aside0.mk (blk_grown (g := gb168) (o := .cells #[.int .i64 t160, .string t161, .slice Ao21 t162.length co21] 39 (0, 0)) (by (with_reducible repeat (first | refine blk_drewN ?_ _ | refine blk_drew ?_ | refine blk_alloc ?_ _)); refine blk_far ?_ NB168_158.out _; (with_reducible repeat (first | refine blk_drewN ?_ _ | refine blk_drew ?_ | refine blk_alloc ?_ _)); refine blk_far ?_ NB168_158.out _; (with_reducible repeat (first | refine blk_drewN ?_ _ | refine blk_drew ?_ | refine blk_alloc ?_ _)); refine blk_far ?_ NB168_158.out _; (with_reducible repeat (first | refine blk_drewN ?_ _ | refine blk_drew ?_ | refine blk_alloc ?_ _)); refine blk_put (cs := #[.int .i64 t160, .string t161, .slice none 0 0]) ?_ 2 _ rfl; (with_reducible repeat (first | refine blk_drewN ?_ _ | refine blk_drew ?_ | refine blk_alloc ?_ _)); refine blk_put (cs := #[.int .i64 t160, .string (⟨#[]⟩ : ByteArray), .slice none 0 0]) ?_ 1 _ rfl; (with_reducible repeat (first | refine blk_drewN ?_ _ | refine blk_drew ?_ | refine blk_alloc ?_ _)); refine blk_put (cs := #[.int .i64 0, .string (⟨#[]⟩ : ByteArray), .slice none 0 0]) ?_ 0 _ rfl; (with_reducible repeat (first | refine blk_drewN ?_ _ | refine blk_drew ?_ | refine blk_alloc ?_ _)); exact BK168.out) hg (Kd.N_ne HO_5.out BK168.out (by decide))); have n6_ := Aside0.mk (hb); have n7_ := Aside0.mk (ho); clear HO_159002; clear BK157; clear BK158; clear HO164; clear HO167; clear BK168; clear HB; clear HO_5; have HO_159002 := n0_; have BK157 := n1_; have BK158 := n2_; have HO164 := n3_; have HO167 := n4_; have BK168 := n5_; have HB := n6_; have HO171 := n7_; clear n0_ n1_ n2_ n3_ n4_ n5_ n6_ n7_; clear ho hb hg hat; have p172 : 0 ≤ (x6_1 : Int) := of_decide_eq_true (by first | (with_reducible assumption) | assumption); have q172 : x6_1 < (l0.length : Int) := of_decide_eq_true (by first | (with_reducible assumption) | assumption); obtain ⟨ad172, A172_0, c172_0, e172, hx172_0, hx172_1, hl172_0, hi172_0⟩ := at_T56 HR0.out x6_1 p172 q172; (try rw [← Nbq10.out] at hx172_1); obtain rfl : ad159 = ad172 := (by injection e172); replace hx172_0 := (HB.out.cell (World.block_lt_of_cell? w _ hx172_0)).trans hx172_0; replace hx172_1 := (HB.out.cell (World.block_lt_of_cell? w _ hx172_1)).trans hx172_1; have HR172_0 := Aside0.mk hi172_0; have HC172_0 := Aside0.mk hl172_0; clear hi172_0 hl172_0; replace p172 := eq_true p172; replace q172 := eq_true q172; have hcz30_0 : w28.cell? ⟨gb158, 0, none⟩ = some (.int .i64 t160) := (blk_cell BK158.out 0).trans rfl; have hcz30_1 : w28.cell? ⟨gb158, 1, none⟩ = some (.string t161) := (blk_cell BK158.out 1).trans rfl; have hcz30_2 : w28.cell? ⟨gb158, 2, none⟩ = some (.slice Ao21 t162.length co21) := (blk_cell BK158.out 2).trans rfl; have hfz30_0 := blk_frozen BK158.out 0; have hfz30_1 := blk_frozen BK158.out 1; have hfz30_2 := blk_frozen BK158.out 2) | ((with_reducible refine gate_callee (f := 40) rfl ?_); refine goesL_ (some 37) rfl rfl Try.func40 (by kernel_rfl) rfl #[.agg #[.int .i64 t160, .string t161, .slice Ao21 t162.length co21]] rfl (by (try simp only [List.map_toArray, List.map_cons, List.map_nil]); first | done | rfl | (simp only [List.length_drop, List.length_take]; rfl)) ?_; (with_reducible refine (cut_Flush.calls t160 t161 (fun k_ => (((w.heap.size ≤ k_) ∧ (some k_ ≠ (.slice Ao29 t165.length co29 : Value).ownBlock ∧ (k_ ≠ gb157 ∧ (k_ ≠ gb158 ∧ k_ ≠ gb168)))) ∧ some k_ ≠ (v170 : Value).ownBlock)) _ _ t162 t173 t174 t175 t178 _ ?side1 A12.out).mono ?_); (case side1 => exact HO164.out); rintro e w31 ⟨v176, v179, rfl, ho0, ho1, hb⟩; refine ⟨_, rfl, ?_⟩; have n0_ := Aside0.mk (Kd.V_below (by (with_reducible repeat (first | apply Kd.V_alloc | apply Kd.V_drewN | apply Kd.V_drew)); exact HO_159002.out) hb); have n1_ := Aside0.mk (Kd.V_below (by (with_reducible repeat (first | apply Kd.V_alloc | apply Kd.V_drewN | apply Kd.V_drew)); exact HO164.out) hb); have n2_ := Aside0.mk (Kd.N_below (by (with_reducible repeat (first | apply Kd.N_alloc | apply Kd.N_drewN | apply Kd.N_drew)); exact HO167.out) hb); have n3_ := Aside0.mk (Kd.N_below (by (with_reducible repeat (first | apply Kd.N_alloc | apply Kd.N_drewN | apply Kd.N_drew)); exact HO171.out) hb); have n4_ := Aside0.mk (Kd.V_lower (Kd.V_mono (ok' := fun k_ => (w.heap.size ≤ k_) ∧ some k_ ≠ (.slice Ao29 t165.length co29 : Value).ownBlock ∧ some k_ ≠ (v170 : Value).ownBlock ∧ k_ ≠ gb157 ∧ k_ ≠ gb158 ∧ k_ ≠ gb168) ho0 (fun k_ hk_ => ⟨Or.elim hk_ (fun hs_ => hs_.1.1) (fun hn_ => (Nat.le_trans (below_size (by repeat (first | (with_reducible first | exact HB.out | apply below_alloc | apply pw_below_drewN | apply below_drew1 | refine below_set ?_ GE157.out | refine below_set ?_ GE158.out | refine below_set ?_ GE168.out) | exact HB.out))) hn_)), Or.elim hk_ (fun hs_ => hs_.1.2.1) (fun hn_ => (Kd.fresh' (Kd.N_lt (by (with_reducible repeat (first | apply Kd.N_alloc | apply Kd.N_drewN | apply Kd.N_drew)); exact HO167.out)) k_ hn_)), Or.elim hk_ (fun hs_ => hs_.2) (fun hn_ => (Kd.fresh' (Kd.N_lt (by (with_reducible repeat (first | apply Kd.N_alloc | apply Kd.N_drewN | apply Kd.N_drew)); exact HO171.out)) k_ hn_)), Or.elim hk_ (fun hs_ => hs_.1.2.2.1) (fun hn_ => (Kd.freshB (g := gb157) (o := .cells #[.int .i64 0, .string (⟨#[]⟩ : ByteArray), .slice none 0 0] 39 (0, 0)) (by (with_reducible repeat (first | refine blk_drewN ?_ _ | refine blk_drew ?_ | refine blk_alloc ?_ _)); exact BK157.out) k_ hn_)), Or.elim hk_ (fun hs_ => hs_.1.2.2.2.1) (fun hn_ => (Kd.freshB (g := gb158) (o := .cells #[.int .i64 t160, .string t161, .slice Ao21 t162.length co21] 39 (0, 0)) (by (with_reducible repeat (first | refine blk_drewN ?_ _ | refine blk_drew ?_ | refine blk_alloc ?_ _)); exact BK158.out) k_ hn_)), Or.elim hk_ (fun hs_ => hs_.1.2.2.2.2) (fun hn_ => (Kd.freshB (g := gb168) (o := .cells #[.int .i64 t160, .string t161, .slice Ao21 t162.length co21] 39 (0, 0)) (by (with_reducible repeat (first | refine blk_drewN ?_ _ | refine blk_drew ?_ | refine blk_alloc ?_ _)); exact BK168.out) k_ hn_))⟩)) (below_size (by repeat (first | (with_reducible first | exact HB.out | apply below_alloc | apply pw_below_drewN | apply below_drew1 | refine below_set ?_ GE157.out | refine below_set ?_ GE158.out | refine below_set ?_ GE168.out) | exact HB.out)))); have n5_ := Aside0.mk (Kd.V_lower (Kd.V_mono (ok' := fun k_ => (w.heap.size ≤ k_) ∧ some k_ ≠ (.slice Ao29 t165.length co29 : Value).ownBlock ∧ some k_ ≠ (v170 : Value).ownBlock ∧ k_ ≠ gb157 ∧ k_ ≠ gb158 ∧ k_ ≠ gb168) ho1 (fun k_ hk_ => ⟨Or.elim hk_ (fun hs_ => hs_.1.1) (fun hn_ => (Nat.le_trans (below_size (by repeat (first | (with_reducible first | exact HB.out | apply below_alloc | apply pw_below_drewN | apply below_drew1 | refine below_set ?_ GE157.out | refine below_set ?_ GE158.out | refine below_set ?_ GE168.out) | exact HB.out))) hn_)), Or.elim hk_ (fun hs_ => hs_.1.2.1) (fun hn_ => (Kd.fresh' (Kd.N_lt (by (with_reducible repeat (first | apply Kd.N_alloc | apply Kd.N_drewN | apply Kd.N_drew)); exact HO167.out)) k_ hn_)), Or.elim hk_ (fun hs_ => hs_.2) (fun hn_ => (Kd.fresh' (Kd.N_lt (by (with_reducible repeat (first | apply Kd.N_alloc | apply Kd.N_drewN | apply Kd.N_drew)); exact HO171.out)) k_ hn_)), Or.elim hk_ (fun hs_ => hs_.1.2.2.1) (fun hn_ => (Kd.freshB (g := gb157) (o := .cells #[.int .i64 0, .string (⟨#[]⟩ : ByteArray), .slice none 0 0] 39 (0, 0)) (by (with_reducible repeat (first | refine blk_drewN ?_ _ | refine blk_drew ?_ | refine blk_alloc ?_ _)); exact BK157.out) k_ hn_)), Or.elim hk_ (fun hs_ => hs_.1.2.2.2.1) (fun hn_ => (Kd.freshB (g := gb158) (o := .cells #[.int .i64 t160, .string t161, .slice Ao21 t162.length co21] 39 (0, 0)) (by (with_reducible repeat (first | refine blk_drewN ?_ _ | refine blk_drew ?_ | refine blk_alloc ?_ _)); exact BK158.out) k_ hn_)), Or.elim hk_ (fun hs_ => hs_.1.2.2.2.2) (fun hn_ => (Kd.freshB (g := gb168) (o := .cells #[.int .i64 t160, .string t161, .slice Ao21 t162.length co21] 39 (0, 0)) (by (with_reducible repeat (first | refine blk_drewN ?_ _ | refine blk_drew ?_ | refine blk_alloc ?_ _)); exact BK168.out) k_ hn_))⟩)) (below_size (by repeat (first | (with_reducible first | exact HB.out | apply below_alloc | apply pw_below_drewN | apply below_drew1 | refine below_set ?_ GE157.out | refine below_set ?_ GE158.out | refine below_set ?_ GE168.out) | exact HB.out)))); have n6_ := Aside0.mk (blk_below (g := gb157) (o := .cells #[.int .i64 0, .string (⟨#[]⟩ : ByteArray), .slice none 0 0] 39 (0, 0)) (by (with_reducible repeat (first | refine blk_drewN ?_ _ | refine blk_drew ?_ | refine blk_alloc ?_ _)); exact BK157.out) hb); have n7_ := Aside0.mk (blk_below (g := gb158) (o := .cells #[.int .i64 t160, .string t161, .slice Ao21 t162.length co21] 39 (0, 0)) (by (with_reducible repeat (first | refine blk_drewN ?_ _ | refine blk_drew ?_ | refine blk_alloc ?_ _)); exact BK158.out) hb); have n8_ := Aside0.mk (blk_below (g := gb168) (o := .cells #[.int .i64 t160, .string t161, .slice Ao21 t162.length co21] 39 (0, 0)) (by (with_reducible repeat (first | refine blk_drewN ?_ _ | refine blk_drew ?_ | refine blk_alloc ?_ _)); exact BK168.out) hb); have n9_ := Aside0.mk (below_step (by repeat (first | (with_reducible first | exact HB.out | apply below_alloc | apply pw_below_drewN | apply below_drew1 | refine below_set ?_ GE157.out | refine below_set ?_ GE158.out | refine below_set ?_ GE168.out) | exact HB.out)) hb); clear HO_159002; clear HO164; clear HO167; clear HO171; clear BK157; clear BK158; clear BK168; clear HB; have HO_159002 := n0_; have HO164 := n1_; have HO167 := n2_; have HO171 := n3_; have HO177 := n4_; have HO180 := n5_; have BK157 := n6_; have BK158 := n7_; have BK168 := n8_; have HB := n9_; clear n0_ n1_ n2_ n3_ n4_ n5_ n6_ n7_ n8_ n9_; (try clear hb); (try clear hb2); (try clear hk); (try clear hi); (try clear ho0); (try clear ho1); have hcz32_0 : w31.cell? ⟨gb168, 0, none⟩ = some (.int .i64 t160) := (blk_cell BK168.out 0).trans rfl; have hcz32_1 : w31.cell? ⟨gb168, 1, none⟩ = some (.string t161) := (blk_cell BK168.out 1).trans rfl; have hcz32_2 : w31.cell? ⟨gb168, 2, none⟩ = some (.slice Ao21 t162.length co21) := (blk_cell BK168.out 2).trans rfl; have hfz32_0 := blk_frozen BK168.out 0; have hfz32_1 := blk_frozen BK168.out 1; have hfz32_2 := blk_frozen BK168.out 2; obtain ⟨Ao33, co33, eo33⟩ := Kd.V_slice HO177.out; subst eo33; have hcz34_0 : w31.cell? ⟨gb158, 0, none⟩ = some (.int .i64 t160) := (blk_cell BK158.out 0).trans rfl; have hcz34_1 : w31.cell? ⟨gb158, 1, none⟩ = some (.string t161) := (blk_cell BK158.out 1).trans rfl; have hcz34_2 : w31.cell? ⟨gb158, 2, none⟩ = some (.slice Ao21 t162.length co21) := (blk_cell BK158.out 2).trans rfl; have hfz34_0 := blk_frozen BK158.out 0; have hfz34_1 := blk_frozen BK158.out 1; have hfz34_2 := blk_frozen BK158.out 2; obtain ⟨Ao36, co36, eo36⟩ := Kd.V_slice HO180.out; subst eo36) | ((with_reducible refine gate_builtin (b := .append) (xs := #[.tmp 41, .tmp 42]) rfl ?_); at_builtin; refine Kd.N_append_rows k40 (w0 := w) w.heap.size rfl (.tmp 41) (.tmp 42) 43 40 (.agg #[(.int .i64 0), (.string ⟨#[]⟩), (.slice none 0 0)]) 48 rfl Try.underlying43 info40 rfl (by decide) (by omega) v170 y169 t178 _ _ _ (fun k_ => (w.heap.size ≤ k_) ∧ k_ ≠ gb157 ∧ k_ ≠ gb158 ∧ k_ ≠ gb168) (fun k_ => ((fun k_ => (w.heap.size ≤ k_) ∧ k_ ≠ gb157 ∧ k_ ≠ gb158 ∧ k_ ≠ gb168)) k_ ∧ some k_ ≠ (v170 : Value).ownBlock) rfl rfl ?aO ?aR (fun _ hk => hk) ?aF ?aB ?aS ?aL ?_; (case aR => exact (by skip; exact Kd.V_F (Kd.V_mono (ok' := (fun k_ => ((fun k_ => (w.heap.size ≤ k_) ∧ k_ ≠ gb157 ∧ k_ ≠ gb158 ∧ k_ ≠ gb168)) k_ ∧ some k_ ≠ (v170 : Value).ownBlock)) ((Kd.V_far (p := ⟨gb158, 2, none⟩) (Kd.V_far (p := ⟨gb158, 1, none⟩) (Kd.V_far (p := ⟨gb158, 0, none⟩) (Kd.V_far (p := ⟨gb168, 2, none⟩) (Kd.V_far (p := ⟨gb168, 1, none⟩) (Kd.V_far (p := ⟨gb168, 0, none⟩) (Kd.V_mono (Kd.V_mono HO180.out (fun k_ hk => (⟨hk, hk.2.2.2.2.2⟩ : _ ∧ k_ ≠ gb168))) (fun k_ hk => (⟨hk, hk.1.2.2.2.2.1⟩ : _ ∧ k_ ≠ gb158))) (fun _ hk => hk.1.2) (.int .i64 t173)) (fun _ hk => hk.1.2) (.string t174)) (fun _ hk => hk.1.2) (.slice Ao33 t175.length co33)) (fun _ hk => hk.2) (.int .i64 t173)) (fun _ hk => hk.2) (.string t174)) (fun _ hk => hk.2) (.slice Ao33 t175.length co33))) (fun k_ hk => ⟨⟨hk.1.1.1, ⟨hk.1.1.2.2.2.1, ⟨hk.1.1.2.2.2.2.1, hk.1.1.2.2.2.2.2⟩⟩⟩, hk.1.1.2.2.1⟩)))); (case aB => exact (by repeat (first | (with_reducible first | exact HB.out | apply below_alloc | apply pw_below_drewN | apply below_drew1 | refine below_set ?_ GE157.out | refine below_set ?_ GE158.out | refine below_set ?_ GE168.out) | exact HB.out))); (case aF => exact (fun k_ hk => ⟨(Nat.le_trans (below_size (by repeat (first | (with_reducible first | exact HB.out | apply below_alloc | apply pw_below_drewN | apply below_drew1 | refine below_set ?_ GE157.out | refine below_set ?_ GE158.out | refine below_set ?_ GE168.out) | exact HB.out))) hk), Kd.freshB (g := gb157) (o := .cells #[.int .i64 0, .string (⟨#[]⟩ : ByteArray), .slice none 0 0] 39 (0, 0)) (by (with_reducible repeat (first | refine blk_drewN ?_ _ | refine blk_drew ?_ | refine blk_alloc ?_ _)); refine blk_far ?_ NB157_158.out _; (with_reducible repeat (first | refine blk_drewN ?_ _ | refine blk_drew ?_ | refine blk_alloc ?_ _)); refine blk_far ?_ NB157_158.out _; (with_reducible repeat (first | refine blk_drewN ?_ _ | refine blk_drew ?_ | refine blk_alloc ?_ _)); refine blk_far ?_ NB157_158.out _; (with_reducible repeat (first | refine blk_drewN ?_ _ | refine blk_drew ?_ | refine blk_alloc ?_ _)); refine blk_far ?_ NB157_168.out _; (with_reducible repeat (first | refine blk_drewN ?_ _ | refine blk_drew ?_ | refine blk_alloc ?_ _)); refine blk_far ?_ NB157_168.out _; (with_reducible repeat (first | refine blk_drewN ?_ _ | refine blk_drew ?_ | refine blk_alloc ?_ _)); refine blk_far ?_ NB157_168.out _; (with_reducible repeat (first | refine blk_drewN ?_ _ | refine blk_drew ?_ | refine blk_alloc ?_ _)); exact BK157.out) k_ hk, Kd.freshB (g := gb158) (o := .cells #[.int .i64 t173, .string t174, .slice Ao33 t175.length co33] 39 (0, 0)) (by (with_reducible repeat (first | refine blk_drewN ?_ _ | refine blk_drew ?_ | refine blk_alloc ?_ _)); refine blk_put (cs := #[.int .i64 t173, .string t174, .slice Ao21 t162.length co21]) ?_ 2 _ rfl; (with_reducible repeat (first | refine blk_drewN ?_ _ | refine blk_drew ?_ | refine blk_alloc ?_ _)); refine blk_put (cs := #[.int .i64 t173, .string t161, .slice Ao21 t162.length co21]) ?_ 1 _ rfl; (with_reducible repeat (first | refine blk_drewN ?_ _ | refine blk_drew ?_ | refine blk_alloc ?_ _)); refine blk_put (cs := #[.int .i64 t160, .string t161, .slice Ao21 t162.length co21]) ?_ 0 _ rfl; (with_reducible repeat (first | refine blk_drewN ?_ _ | refine blk_drew ?_ | refine blk_alloc ?_ _)); refine blk_far ?_ NB158_168.out _; (with_reducible repeat (first | refine blk_drewN ?_ _ | refine blk_drew ?_ | refine blk_alloc ?_ _)); refine blk_far ?_ NB158_168.out _; (with_reducible repeat (first | refine blk_drewN ?_ _ | refine blk_drew ?_ | refine blk_alloc ?_ _)); refine blk_far ?_ NB158_168.out _; (with_reducible repeat (first | refine blk_drewN ?_ _ | refine blk_drew ?_ | refine blk_alloc ?_ _)); exact BK158.out) k_ hk, Kd.freshB (g := gb168) (o := .cells #[.int .i64 t173, .string t174, .slice Ao33 t175.length co33] 39 (0, 0)) (by (with_reducible repeat (first | refine blk_drewN ?_ _ | refine blk_drew ?_ | refine blk_alloc ?_ _)); refine blk_far ?_ NB168_158.out _; (with_reducible repeat (first | refine blk_drewN ?_ _ | refine blk_drew ?_ | refine blk_alloc ?_ _)); refine blk_far ?_ NB168_158.out _; (with_reducible repeat (first | refine blk_drewN ?_ _ | refine blk_drew ?_ | refine blk_alloc ?_ _)); refine blk_far ?_ NB168_158.out _; (with_reducible repeat (first | refine blk_drewN ?_ _ | refine blk_drew ?_ | refine blk_alloc ?_ _)); refine blk_put (cs := #[.int .i64 t173, .string t174, .slice Ao21 t162.length co21]) ?_ 2 _ rfl; (with_reducible repeat (first | refine blk_drewN ?_ _ | refine blk_drew ?_ | refine blk_alloc ?_ _)); refine blk_put (cs := #[.int .i64 t173, .string t161, .slice Ao21 t162.length co21]) ?_ 1 _ rfl; (with_reducible repeat (first | refine blk_drewN ?_ _ | refine blk_drew ?_ | refine blk_alloc ?_ _)); refine blk_put (cs := #[.int .i64 t160, .string t161, .slice Ao21 t162.length co21]) ?_ 0 _ rfl; (with_reducible repeat (first | refine blk_drewN ?_ _ | refine blk_drew ?_ | refine blk_alloc ?_ _)); exact BK168.out) k_ hk⟩)); (case aO => exact (by (with_reducible repeat (first | apply Kd.N_alloc | apply Kd.N_drewN | apply Kd.N_drew)); exact Kd.N_mono (Kd.N_far (p := ⟨gb158, 2, none⟩) (Kd.N_far (p := ⟨gb158, 1, none⟩) (Kd.N_far (p := ⟨gb158, 0, none⟩) (Kd.N_far (p := ⟨gb168, 2, none⟩) (Kd.N_far (p := ⟨gb168, 1, none⟩) (Kd.N_far (p := ⟨gb168, 0, none⟩) (Kd.N_mono (Kd.N_mono HO171.out (fun k_ hk => (⟨hk, hk.2.2.2⟩ : _ ∧ k_ ≠ gb168))) (fun k_ hk => (⟨hk, hk.1.2.2.1⟩ : _ ∧ k_ ≠ gb158))) (fun _ hk => hk.1.2) (.int .i64 t173)) (fun _ hk => hk.1.2) (.string t174)) (fun _ hk => hk.1.2) (.slice Ao33 t175.length co33)) (fun _ hk => hk.2) (.int .i64 t173)) (fun _ hk => hk.2) (.string t174)) (fun _ hk => hk.2) (.slice Ao33 t175.length co33)) (fun _ hk => ⟨hk.1.1.1, ⟨hk.1.1.2.1, ⟨hk.1.1.2.2.1, hk.1.1.2.2.2⟩⟩⟩))); (case aS => exact (below_size (by repeat (first | (with_reducible first | exact HB.out | apply below_alloc | apply pw_below_drewN | apply below_drew1 | refine below_set ?_ GE157.out | refine below_set ?_ GE158.out | refine below_set ?_ GE168.out) | exact HB.out)))); (case aL => have := LMc13.out; omega); intro v182 w35 ho hb hg hat; rw [← Ny181.out] at ho; have n0_ := Aside0.mk (Kd.V_afterv (ok := (fun k_ => (w.heap.size ≤ k_) ∧ some k_ ≠ (.slice Ao29 t165.length co29 : Value).ownBlock ∧ k_ ≠ gb157 ∧ k_ ≠ gb158 ∧ k_ ≠ gb168)) (by (with_reducible repeat (first | apply Kd.V_alloc | apply Kd.V_drewN | apply Kd.V_drew)); exact Kd.V_mono (Kd.V_far (p := ⟨gb158, 2, none⟩) (Kd.V_far (p := ⟨gb158, 1, none⟩) (Kd.V_far (p := ⟨gb158, 0, none⟩) (Kd.V_far (p := ⟨gb168, 2, none⟩) (Kd.V_far (p := ⟨gb168, 1, none⟩) (Kd.V_far (p := ⟨gb168, 0, none⟩) (Kd.V_mono (Kd.V_mono HO_159002.out (fun k_ hk => (⟨hk, hk.1.2.2.2.2⟩ : _ ∧ k_ ≠ gb168))) (fun k_ hk => (⟨hk, hk.1.1.2.2.2.1⟩ : _ ∧ k_ ≠ gb158))) (fun _ hk => hk.1.2) (.int .i64 t173)) (fun _ hk => hk.1.2) (.string t174)) (fun _ hk => hk.1.2) (.slice Ao33 t175.length co33)) (fun _ hk => hk.2) (.int .i64 t173)) (fun _ hk => hk.2) (.string t174)) (fun _ hk => hk.2) (.slice Ao33 t175.length co33)) (fun _ hk => ⟨⟨hk.1.1.1.1, ⟨hk.1.1.1.2.1, ⟨hk.1.1.1.2.2.1, ⟨hk.1.1.1.2.2.2.1, hk.1.1.1.2.2.2.2⟩⟩⟩⟩, hk.1.1.2⟩)) hg hat); have n1_ := Aside0.mk (blk_grown (g := gb157) (o := .cells #[.int .i64 0, .string (⟨#[]⟩ : ByteArray), .slice none 0 0] 39 (0, 0)) (by (with_reducible repeat (first | refine blk_drewN ?_ _ | refine blk_drew ?_ | refine blk_alloc ?_ _)); refine blk_far ?_ NB157_158.out _; (with_reducible repeat (first | refine blk_drewN ?_ _ | refine blk_drew ?_ | refine blk_alloc ?_ _)); refine blk_far ?_ NB157_158.out _; (with_reducible repeat (first | refine blk_drewN ?_ _ | refine blk_drew ?_ | refine blk_alloc ?_ _)); refine blk_far ?_ NB157_158.out _; (with_reducible repeat (first | refine blk_drewN ?_ _ | refine blk_drew ?_ | refine blk_alloc ?_ _)); refine blk_far ?_ NB157_168.out _; (with_reducible repeat (first | refine blk_drewN ?_ _ | refine blk_drew ?_ | refine blk_alloc ?_ _)); refine blk_far ?_ NB157_168.out _; (with_reducible repeat (first | refine blk_drewN ?_ _ | refine blk_drew ?_ | refine blk_alloc ?_ _)); refine blk_far ?_ NB157_168.out _; (with_reducible repeat (first | refine blk_drewN ?_ _ | refine blk_drew ?_ | refine blk_alloc ?_ _)); exact BK157.out) hg (Kd.N_ne HO171.out BK157.out (by decide))); have n2_ := Aside0.mk (blk_grown (g := gb158) (o := .cells #[.int .i64 t173, .string t174, .slice Ao33 t175.length co33] 39 (0, 0)) (by (with_reducible repeat (first | refine blk_drewN ?_ _ | refine blk_drew ?_ | refine blk_alloc ?_ _)); refine blk_put (cs := #[.int .i64 t173, .string t174, .slice Ao21 t162.length co21]) ?_ 2 _ rfl; (with_reducible repeat (first | refine blk_drewN ?_ _ | refine blk_drew ?_ | refine blk_alloc ?_ _)); refine blk_put (cs := #[.int .i64 t173, .string t161, .slice Ao21 t162.length co21]) ?_ 1 _ rfl; (with_reducible repeat (first | refine blk_drewN ?_ _ | refine blk_drew ?_ | refine blk_alloc ?_ _)); refine blk_put (cs := #[.int .i64 t160, .string t161, .slice Ao21 t162.length co21]) ?_ 0 _ rfl; (with_reducible repeat (first | refine blk_drewN ?_ _ | refine blk_drew ?_ | refine blk_alloc ?_ _)); refine blk_far ?_ NB158_168.out _; (with_reducible repeat (first | refine blk_drewN ?_ _ | refine blk_drew ?_ | refine blk_alloc ?_ _)); refine blk_far ?_ NB158_168.out _; (with_reducible repeat (first | refine blk_drewN ?_ _ | refine blk_drew ?_ | refine blk_alloc ?_ _)); refine blk_far ?_ NB158_168.out _; (with_reducible repeat (first | refine blk_drewN ?_ _ | refine blk_drew ?_ | refine blk_alloc ?_ _)); exact BK158.out) hg (Kd.N_ne HO171.out BK158.out (by decide))); have n3_ := Aside0.mk (Kd.V_afterv (ok := (fun k_ => (w.heap.size ≤ k_) ∧ some k_ ≠ (.slice Ao29 t165.length co29 : Value).ownBlock ∧ k_ ≠ gb157 ∧ k_ ≠ gb158 ∧ k_ ≠ gb168)) (by (with_reducible repeat (first | apply Kd.V_alloc | apply Kd.V_drewN | apply Kd.V_drew)); exact Kd.V_mono (Kd.V_far (p := ⟨gb158, 2, none⟩) (Kd.V_far (p := ⟨gb158, 1, none⟩) (Kd.V_far (p := ⟨gb158, 0, none⟩) (Kd.V_far (p := ⟨gb168, 2, none⟩) (Kd.V_far (p := ⟨gb168, 1, none⟩) (Kd.V_far (p := ⟨gb168, 0, none⟩) (Kd.V_mono (Kd.V_mono HO164.out (fun k_ hk => (⟨hk, hk.1.2.2.2.2⟩ : _ ∧ k_ ≠ gb168))) (fun k_ hk => (⟨hk, hk.1.1.2.2.2.1⟩ : _ ∧ k_ ≠ gb158))) (fun _ hk => hk.1.2) (.int .i64 t173)) (fun _ hk => hk.1.2) (.string t174)) (fun _ hk => hk.1.2) (.slice Ao33 t175.length co33)) (fun _ hk => hk.2) (.int .i64 t173)) (fun _ hk => hk.2) (.string t174)) (fun _ hk => hk.2) (.slice Ao33 t175.length co33)) (fun _ hk => ⟨⟨hk.1.1.1.1, ⟨hk.1.1.1.2.1, ⟨hk.1.1.1.2.2.1, ⟨hk.1.1.1.2.2.2.1, hk.1.1.1.2.2.2.2⟩⟩⟩⟩, hk.1.1.2⟩)) hg hat); have n4_ := Aside0.mk (Kd.N_afterv (ok := (fun k_ => (w.heap.size ≤ k_) ∧ k_ ≠ gb157 ∧ k_ ≠ gb158 ∧ k_ ≠ gb168)) (by (with_reducible repeat (first | apply Kd.N_alloc | apply Kd.N_drewN | apply Kd.N_drew)); exact Kd.N_mono (Kd.N_far (p := ⟨gb158, 2, none⟩) (Kd.N_far (p := ⟨gb158, 1, none⟩) (Kd.N_far (p := ⟨gb158, 0, none⟩) (Kd.N_far (p := ⟨gb168, 2, none⟩) (Kd.N_far (p := ⟨gb168, 1, none⟩) (Kd.N_far (p := ⟨gb168, 0, none⟩) (Kd.N_mono (Kd.N_mono HO167.out (fun k_ hk => (⟨hk, hk.1.2.2.2⟩ : _ ∧ k_ ≠ gb168))) (fun k_ hk => (⟨hk, hk.1.1.2.2.1⟩ : _ ∧ k_ ≠ gb158))) (fun _ hk => hk.1.2) (.int .i64 t173)) (fun _ hk => hk.1.2) (.string t174)) (fun _ hk => hk.1.2) (.slice Ao33 t175.length co33)) (fun _ hk => hk.2) (.int .i64 t173)) (fun _ hk => hk.2) (.string t174)) (fun _ hk => hk.2) (.slice Ao33 t175.length co33)) (fun _ hk => ⟨⟨hk.1.1.1.1, ⟨hk.1.1.1.2.1, ⟨hk.1.1.1.2.2.1, hk.1.1.1.2.2.2⟩⟩⟩, hk.1.1.2⟩)) hg hat); have n5_ := Aside0.mk (blk_grown (g := gb168) (o := .cells #[.int .i64 t173, .string t174, .slice Ao33 t175.length co33] 39 (0, 0)) (by (with_reducible repeat (first | refine blk_drewN ?_ _ | refine blk_drew ?_ | refine blk_alloc ?_ _)); refine blk_far ?_ NB168_158.out _; (with_reducible repeat (first | refine blk_drewN ?_ _ | refine blk_drew ?_ | refine blk_alloc ?_ _)); refine blk_far ?_ NB168_158.out _; (with_reducible repeat (first | refine blk_drewN ?_ _ | refine blk_drew ?_ | refine blk_alloc ?_ _)); refine blk_far ?_ NB168_158.out _; (with_reducible repeat (first | refine blk_drewN ?_ _ | refine blk_drew ?_ | refine blk_alloc ?_ _)); refine blk_put (cs := #[.int .i64 t173, .string t174, .slice Ao21 t162.length co21]) ?_ 2 _ rfl; (with_reducible repeat (first | refine blk_drewN ?_ _ | refine blk_drew ?_ | refine blk_alloc ?_ _)); refine blk_put (cs := #[.int .i64 t173, .string t161, .slice Ao21 t162.length co21]) ?_ 1 _ rfl; (with_reducible repeat (first | refine blk_drewN ?_ _ | refine blk_drew ?_ | refine blk_alloc ?_ _)); refine blk_put (cs := #[.int .i64 t160, .string t161, .slice Ao21 t162.length co21]) ?_ 0 _ rfl; (with_reducible repeat (first | refine blk_drewN ?_ _ | refine blk_drew ?_ | refine blk_alloc ?_ _)); exact BK168.out) hg (Kd.N_ne HO171.out BK168.out (by decide))); have n6_ := Aside0.mk (Kd.V_afterv (ok := (fun k_ => (w.heap.size ≤ k_) ∧ some k_ ≠ (.slice Ao29 t165.length co29 : Value).ownBlock ∧ k_ ≠ gb157 ∧ k_ ≠ gb158 ∧ k_ ≠ gb168)) (by (with_reducible repeat (first | apply Kd.V_alloc | apply Kd.V_drewN | apply Kd.V_drew)); exact Kd.V_mono (Kd.V_far (p := ⟨gb158, 2, none⟩) (Kd.V_far (p := ⟨gb158, 1, none⟩) (Kd.V_far (p := ⟨gb158, 0, none⟩) (Kd.V_far (p := ⟨gb168, 2, none⟩) (Kd.V_far (p := ⟨gb168, 1, none⟩) (Kd.V_far (p := ⟨gb168, 0, none⟩) (Kd.V_mono (Kd.V_mono HO177.out (fun k_ hk => (⟨hk, hk.2.2.2.2.2⟩ : _ ∧ k_ ≠ gb168))) (fun k_ hk => (⟨hk, hk.1.2.2.2.2.1⟩ : _ ∧ k_ ≠ gb158))) (fun _ hk => hk.1.2) (.int .i64 t173)) (fun _ hk => hk.1.2) (.string t174)) (fun _ hk => hk.1.2) (.slice Ao33 t175.length co33)) (fun _ hk => hk.2) (.int .i64 t173)) (fun _ hk => hk.2) (.string t174)) (fun _ hk => hk.2) (.slice Ao33 t175.length co33)) (fun _ hk => ⟨⟨hk.1.1.1, ⟨hk.1.1.2.1, ⟨hk.1.1.2.2.2.1, ⟨hk.1.1.2.2.2.2.1, hk.1.1.2.2.2.2.2⟩⟩⟩⟩, hk.1.1.2.2.1⟩)) hg hat); have n7_ := Aside0.mk (Kd.V_afterv (ok := (fun k_ => (w.heap.size ≤ k_) ∧ some k_ ≠ (.slice Ao29 t165.length co29 : Value).ownBlock ∧ k_ ≠ gb157 ∧ k_ ≠ gb158 ∧ k_ ≠ gb168)) (by (with_reducible repeat (first | apply Kd.V_alloc | apply Kd.V_drewN | apply Kd.V_drew)); exact Kd.V_mono (Kd.V_far (p := ⟨gb158, 2, none⟩) (Kd.V_far (p := ⟨gb158, 1, none⟩) (Kd.V_far (p := ⟨gb158, 0, none⟩) (Kd.V_far (p := ⟨gb168, 2, none⟩) (Kd.V_far (p := ⟨gb168, 1, none⟩) (Kd.V_far (p := ⟨gb168, 0, none⟩) (Kd.V_mono (Kd.V_mono HO180.out (fun k_ hk => (⟨hk, hk.2.2.2.2.2⟩ : _ ∧ k_ ≠ gb168))) (fun k_ hk => (⟨hk, hk.1.2.2.2.2.1⟩ : _ ∧ k_ ≠ gb158))) (fun _ hk => hk.1.2) (.int .i64 t173)) (fun _ hk => hk.1.2) (.string t174)) (fun _ hk => hk.1.2) (.slice Ao33 t175.length co33)) (fun _ hk => hk.2) (.int .i64 t173)) (fun _ hk => hk.2) (.string t174)) (fun _ hk => hk.2) (.slice Ao33 t175.length co33)) (fun _ hk => ⟨⟨hk.1.1.1, ⟨hk.1.1.2.1, ⟨hk.1.1.2.2.2.1, ⟨hk.1.1.2.2.2.2.1, hk.1.1.2.2.2.2.2⟩⟩⟩⟩, hk.1.1.2.2.1⟩)) hg hat); have n8_ := Aside0.mk (hb); have n9_ := Aside0.mk (ho); clear HO_159002; clear BK157; clear BK158; clear HO164; clear HO167; clear BK168; clear HO177; clear HO180; clear HB; clear HO171; have HO_159002 := n0_; have BK157 := n1_; have BK158 := n2_; have HO164 := n3_; have HO167 := n4_; have BK168 := n5_; have HO177 := n6_; have HO180 := n7_; have HB := n8_; have HO183 := n9_; clear n0_ n1_ n2_ n3_ n4_ n5_ n6_ n7_ n8_ n9_; clear ho hb hg hat))
                go_roundg k1
                case measure => have := HK1.out; omega
                case rel => exact ⟨(y181), (wrap64 (x6_1 + 1)), (t173), (t174), (t175), (.slice Ao33 t175.length co33), (by first | rfl | (simp; done) | (simp [*]; done)), H', ⟨by have := HK1.out; omega⟩, ⟨by (with_reducible repeat (first | apply Kd.N_alloc | apply Kd.N_drewN | apply Kd.N_drew)); exact Kd.N_mono HO183.out (fun _ hk => ⟨hk.1, ⟨hk.2.1, hk.2.2.1⟩⟩)⟩, ⟨by (with_reducible repeat (first | apply Kd.V_alloc | apply Kd.V_drewN | apply Kd.V_drew)); exact Kd.V_mono HO177.out (fun _ hk => ⟨hk.1.1, ⟨hk.2, ⟨hk.1.2.2.1, hk.1.2.2.2.1⟩⟩⟩)⟩, ⟨by (with_reducible repeat (first | refine blk_drewN ?_ _ | refine blk_drew ?_ | refine blk_alloc ?_ _)); exact BK157.out⟩, ⟨by (with_reducible repeat (first | refine blk_drewN ?_ _ | refine blk_drew ?_ | refine blk_alloc ?_ _)); exact BK158.out⟩, ⟨by repeat (first | (with_reducible first | exact HB.out | apply below_alloc | apply pw_below_drewN | apply below_drew1 | refine below_set ?_ GE157.out | refine below_set ?_ GE158.out | refine below_set ?_ GE168.out) | exact HB.out)⟩⟩
              · rw [if_neg c13] at H
                exact absurd H (by simp)
            · replace c11 := Bool.eq_false_iff.mpr c11
              subst c11
              have H1 : (selvedgelaw15_runs.l0 k1 l0 y169 (wrap64 (x6_1 + 1)) t160 t161 t162) = some (r1, r2, r3, r4) := by rw [if_neg (show ¬ (false = true) by decide)] at H; exact H
              clear H
              have H := H1
              clear H1
              have H' := Aside0.mk H
              clear H
              obtain ⟨Ao37, co37, eo37⟩ := Kd.V_slice HO_159002.out
              subst eo37
              try go_wp2
              have n0_ := Aside0.mk (Kd.N_drew HO_5.out)
              have n1_ := Aside0.mk (Kd.V_drew HO_159002.out)
              have n2_ := Aside0.mk (blk_drew BK157.out)
              have n3_ := Aside0.mk (blk_drew BK158.out)
              have n4_ := Aside0.mk (below_drew1 HB.out)
              clear HO_5
              clear HO_159002
              clear BK157
              clear BK158
              clear HB
              have HO_5 := n0_
              have HO_159002 := n1_
              have BK157 := n2_
              have BK158 := n3_
              have HB := n4_
              clear n0_ n1_ n2_ n3_ n4_
              have p159 : 0 ≤ (x6_1 : Int) := of_decide_eq_true (by first | (with_reducible assumption) | assumption)
              have q159 : x6_1 < (l0.length : Int) := of_decide_eq_true (by first | (with_reducible assumption) | assumption)
              obtain ⟨ad159, A159_0, c159_0, e159, hx159_0, hx159_1, hl159_0, hi159_0⟩ := at_T56 HR0.out x6_1 p159 q159
              have hw159_1 := hx159_1
              have hw159_0 := hx159_0
              (try rw [← Nbq10.out] at hx159_1)
              cases e159
              replace hx159_0 := (HB.out.cell (World.block_lt_of_cell? w _ hx159_0)).trans hx159_0
              replace hx159_1 := (HB.out.cell (World.block_lt_of_cell? w _ hx159_1)).trans hx159_1
              have HR159_0 := Aside0.mk hi159_0
              have HC159_0 := Aside0.mk hl159_0
              clear hi159_0 hl159_0
              replace p159 := eq_true p159
              replace q159 := eq_true q159
              refine start_ (n := 13) (S := fun w' => w'.cell? ⟨gb158, 0, none⟩ = some (.int .i64 x159000_1) ∧ w'.cell? ⟨gb158, 1, none⟩ = some (.string x159001_1) ∧ w'.cell? ⟨gb158, 2, none⟩ = some (.slice Ao37 x159002_1.length co37) ∧ w'.cell? (ad159.add ((x6_1).toNat * 2)) = some (.slice A159_0 ((rd_T56 l0 x6_1).f0).length c159_0) ∧ w'.cell? ⟨(ad159.add ((x6_1).toNat * 2)).block, (ad159.add ((x6_1).toNat * 2)).off + 1, none⟩ = some (.bool false)) (ds := []) #[false, false, false, false, false, false, false, false, false, false, false, false, false] (by kernel_rfl) rfl rfl ⟨(blk_cell BK158.out 0).trans rfl, (blk_cell BK158.out 1).trans rfl, (blk_cell BK158.out 2).trans rfl, ((HB.out.cell (World.block_lt_of_cell? w _ hw159_0)).trans (by first | exact hw159_0 | (rw [hw159_0, ← Nbq10.out]))), ((HB.out.cell (World.block_lt_of_cell? w _ hw159_1)).trans (by first | exact hw159_1 | (rw [hw159_1, ← Nbq10.out])))⟩ (fun hHeld => ?_); refine with_tabW selvedgelaw15_runs.tab6 selvedgelaw15_runs.bits6 (fun HT_ HW_ => ?_)
              generalize wr.drew = w38 at HO_5 HO_159002 BK157 BK158 HB HR159_0 hx159_0 hx159_1 hHeld ⊢
              refine pure_ (i := 1) (N := some 18) (v := ?_) (a' := ?_) #[false, true, false, false, false, false, false, false, false, false, false, false, false] rfl rfl (any_of HT_.out (by kernel_rfl)) (fun _ _ _ h => h) (Or.inl ⟨by rfl, ?_⟩) ?_ ?_
              rotate_left
              · intro w'
                go_simp
                with_reducible rfl
              rotate_left
              · simp only [Act.put, List.setIfInBounds_toArray, List.set_cons_zero, List.set_cons_succ, i64_w, i32_w]
                rfl
              refine pure_ (i := 2) (N := some 19) (v := ?_) (a' := ?_) #[false, true, true, false, false, false, false, false, false, false, false, false, false] rfl rfl (any_of HT_.out (by kernel_rfl)) (fun _ _ _ h => h) (Or.inl ⟨by rfl, ?_⟩) ?_ ?_
              rotate_left
              · intro w'
                go_simp
                with_reducible rfl
              rotate_left
              · simp only [Act.put, List.setIfInBounds_toArray, List.set_cons_zero, List.set_cons_succ, i64_w, i32_w]
                rfl
              refine pure_ (i := 3) (N := some 20) (v := ?_) (a' := ?_) #[false, true, true, true, false, false, false, false, false, false, false, false, false] rfl rfl (any_of HT_.out (by kernel_rfl)) (fun _ _ _ h => h) (Or.inl ⟨by rfl, ?_⟩) ?_ ?_
              rotate_left
              · intro w'
                go_simp
                with_reducible rfl
              rotate_left
              · simp only [Act.put, List.setIfInBounds_toArray, List.set_cons_zero, List.set_cons_succ, i64_w, i32_w]
                rfl
              refine pure_ (i := 4) (N := some 21) (v := ?_) (a' := ?_) #[false, true, true, true, true, false, false, false, false, false, false, false, false] rfl rfl (any_of HT_.out (by kernel_rfl)) (fun _ _ _ h => h) (Or.inl ⟨by rfl, ?_⟩) ?_ ?_
              rotate_left
              · intro w'
                go_simp
                with_reducible rfl
              rotate_left
              · simp only [Act.put, List.setIfInBounds_toArray, List.set_cons_zero, List.set_cons_succ, i64_w, i32_w]
                rfl
              refine take_ (i := 0) (N := some 17) (v := ?_) (a' := ?_) #[true, true, true, true, true, false, false, false, false, false, false, false, false] rfl rfl (take_ofW HT_.out HW_.out (by kernel_rfl)) (fun _ _ _ h => h) (Or.inl ⟨by rfl, ?_⟩) hHeld ?_ ?_
              rotate_left
              · rintro w' ⟨s0, s1, s2, s3, s4⟩
                go_simp
                with_reducible rfl
              rotate_left
              · simp only [Act.put, List.setIfInBounds_toArray, List.set_cons_zero, List.set_cons_succ, i64_w, i32_w]
                rfl
              refine take_ (i := 5) (N := some 22) (v := ?_) (a' := ?_) #[true, true, true, true, true, true, false, false, false, false, false, false, false] rfl rfl (take_ofW HT_.out HW_.out (by kernel_rfl)) (fun _ _ _ h => h) (Or.inl ⟨by rfl, ?_⟩) hHeld ?_ ?_
              rotate_left
              · rintro w' ⟨s0, s1, s2, s3, s4⟩
                go_simp
                with_reducible rfl
              rotate_left
              · simp only [Act.put, List.setIfInBounds_toArray, List.set_cons_zero, List.set_cons_succ, i64_w, i32_w]
                rfl
              refine join_ (σ := Value × Value × Nat) 2 #[true, true, true, true, true, true, true, true, true, true, true, false, false] (fun s_ => [(23, .tuple #[.agg #[.int .i64 t160, .string t161, s_.1], s_.2.1]), (7, .pointer (some ⟨s_.2.2, 0, none⟩)), (16, .tuple #[.agg #[.int .i64 t160, .string t161, s_.1], s_.2.1]), (24, .agg #[.int .i64 t160, .string t161, s_.1]), (25, s_.2.1)]) (fun s_ w' => (w'.cell? ⟨gb158, 0, none⟩ = some (.int .i64 x159000_1) ∧ w'.cell? ⟨gb158, 1, none⟩ = some (.string x159001_1) ∧ w'.cell? ⟨gb158, 2, none⟩ = some (.slice Ao37 x159002_1.length co37) ∧ w'.cell? (ad159.add ((x6_1).toNat * 2)) = some (.slice A159_0 ((rd_T56 l0 x6_1).f0).length c159_0) ∧ w'.cell? ⟨(ad159.add ((x6_1).toNat * 2)).block, (ad159.add ((x6_1).toNat * 2)).off + 1, none⟩ = some (.bool false)) ∧ (Kd.V Kd.string 9 w' w.heap.size (fun k_ => (w.heap.size ≤ k_) ∧ some k_ ≠ (s_.2.1 : Value).ownBlock ∧ some k_ ≠ (u5 : Value).ownBlock ∧ k_ ≠ gb157 ∧ k_ ≠ gb158 ∧ k_ ≠ s_.2.2) s_.1 t162) ∧ (Kd.N k40 40 w' w.heap.size (fun k_ => (w.heap.size ≤ k_) ∧ some k_ ≠ (u5 : Value).ownBlock ∧ k_ ≠ gb157 ∧ k_ ≠ gb158 ∧ k_ ≠ s_.2.2) s_.2.1 t165) ∧ (Kd.V Kd.string 9 w' w.heap.size (fun k_ => (w.heap.size ≤ k_) ∧ some k_ ≠ (s_.2.1 : Value).ownBlock ∧ some k_ ≠ (u5 : Value).ownBlock ∧ k_ ≠ gb157 ∧ k_ ≠ gb158 ∧ k_ ≠ s_.2.2) (.slice Ao37 x159002_1.length co37) x159002_1) ∧ (Kd.N k40 40 w' w.heap.size (fun k_ => (w.heap.size ≤ k_) ∧ some k_ ≠ (s_.2.1 : Value).ownBlock ∧ k_ ≠ gb157 ∧ k_ ≠ gb158 ∧ k_ ≠ s_.2.2) u5 x5_1) ∧ (w'.heap[gb157]? = some (.cells #[.int .i64 0, .string (⟨#[]⟩ : ByteArray), .slice none 0 0] 39 (0, 0))) ∧ (w'.heap[gb158]? = some (.cells #[.int .i64 x159000_1, .string x159001_1, .slice Ao37 x159002_1.length co37] 39 (0, 0))) ∧ (w'.heap[s_.2.2]? = some (.cells #[.int .i64 0, .string (⟨#[]⟩ : ByteArray), .slice none 0 0] 39 (0, 0))) ∧ (w.heap.size ≤ s_.2.2) ∧ (w.heap.size ≤ s_.2.2) ∧ (gb157 ≠ s_.2.2) ∧ (s_.2.2 ≠ gb157) ∧ (gb158 ≠ s_.2.2) ∧ (s_.2.2 ≠ gb158) ∧ (Below w.heap.size w w')) ?_ ?_
              rotate_left
              · intro hCont
                refine two_ (i := 6) (j := 10) (Ni := some 23) (Nj := some 7) #[true, true, true, true, true, true, true, false, false, false, false, false, false] #[true, true, true, true, true, true, false, false, false, false, true, false, false] rfl rfl rfl rfl (two_of HT_.out (by kernel_rfl)) (by decide) (by decide) (fun K hK => ?_) (fun K hK => ?_)
                · skip
                  refine goes_ Try.func38 (by kernel_rfl) rfl #[.agg #[.int .i64 x159000_1, .string x159001_1, .slice Ao37 x159002_1.length co37], .slice A159_0 ((rd_T56 l0 x6_1).f0).length c159_0] (by rfl) rfl rfl (by (try simp only [List.map_toArray, List.map_cons, List.map_nil]); first | done | rfl | (simp only [List.length_drop, List.length_take]; rfl)) ?_
                  with_reducible refine (cut_Feed.calls k1 x159000_1 x159001_1 (fun k_ => ((w.heap.size ≤ k_) ∧ (some k_ ≠ (u5 : Value).ownBlock ∧ (k_ ≠ gb157 ∧ k_ ≠ gb158)))) _ _ x159002_1 _ _ ((rd_T56 l0 x6_1).f0) t160 t161 t162 t165 _ ?side1 ?side2 ?side3 A8.out).mono ?_
                  (case side1 => exact HO_159002.out)
                  (case side2 => repeat (first | exact (Kd.C_below HR159_0.out HB.out) | (with_reducible refine Kd.C_alloc ?_ _) | (with_reducible refine Kd.C_drewN ?_ _) | (with_reducible refine Kd.C_drew ?_)))
                  (case side3 => exact HC159_0.out)
                  rintro e w39 ⟨v163, v166, rfl, ho0, ho1, hb⟩
                  refine ⟨_, rfl, ?_⟩
                  have n0_ := Aside0.mk (Kd.N_elder' (by (with_reducible repeat (first | apply Kd.N_alloc | apply Kd.N_drewN | apply Kd.N_drew)); exact HO_5.out) (Kd.N_base ho1) hb)
                  have n1_ := Aside0.mk (Kd.V_elder' (by (with_reducible repeat (first | apply Kd.V_alloc | apply Kd.V_drewN | apply Kd.V_drew)); exact HO_159002.out) (Kd.N_base ho1) hb)
                  have n2_ := Aside0.mk (Kd.V_lower (Kd.V_mono (ok' := fun k_ => (w.heap.size ≤ k_) ∧ some k_ ≠ (v166 : Value).ownBlock ∧ some k_ ≠ (u5 : Value).ownBlock ∧ k_ ≠ gb157 ∧ k_ ≠ gb158) ho0 (fun k_ hk_ => ⟨Or.elim hk_.1 (fun hs_ => hs_.1) (fun hn_ => (Nat.le_trans (below_size (by repeat (first | (with_reducible first | exact HB.out | apply below_alloc | apply pw_below_drewN | apply below_drew1 | refine below_set ?_ GE157.out | refine below_set ?_ GE158.out) | exact HB.out))) hn_)), hk_.2, Or.elim hk_.1 (fun hs_ => hs_.2.1) (fun hn_ => (Kd.fresh' (Kd.N_lt (by (with_reducible repeat (first | apply Kd.N_alloc | apply Kd.N_drewN | apply Kd.N_drew)); exact HO_5.out)) k_ hn_)), Or.elim hk_.1 (fun hs_ => hs_.2.2.1) (fun hn_ => (Kd.freshB (g := gb157) (o := .cells #[.int .i64 0, .string (⟨#[]⟩ : ByteArray), .slice none 0 0] 39 (0, 0)) (by (with_reducible repeat (first | refine blk_drewN ?_ _ | refine blk_drew ?_ | refine blk_alloc ?_ _)); exact BK157.out) k_ hn_)), Or.elim hk_.1 (fun hs_ => hs_.2.2.2) (fun hn_ => (Kd.freshB (g := gb158) (o := .cells #[.int .i64 x159000_1, .string x159001_1, .slice Ao37 x159002_1.length co37] 39 (0, 0)) (by (with_reducible repeat (first | refine blk_drewN ?_ _ | refine blk_drew ?_ | refine blk_alloc ?_ _)); exact BK158.out) k_ hn_))⟩)) (below_size (by repeat (first | (with_reducible first | exact HB.out | apply below_alloc | apply pw_below_drewN | apply below_drew1 | refine below_set ?_ GE157.out | refine below_set ?_ GE158.out) | exact HB.out))))
                  have n3_ := Aside0.mk (Kd.N_lower (Kd.N_mono (ok' := fun k_ => (w.heap.size ≤ k_) ∧ some k_ ≠ (u5 : Value).ownBlock ∧ k_ ≠ gb157 ∧ k_ ≠ gb158) ho1 (fun k_ hk_ => ⟨Or.elim hk_ (fun hs_ => hs_.1) (fun hn_ => (Nat.le_trans (below_size (by repeat (first | (with_reducible first | exact HB.out | apply below_alloc | apply pw_below_drewN | apply below_drew1 | refine below_set ?_ GE157.out | refine below_set ?_ GE158.out) | exact HB.out))) hn_)), Or.elim hk_ (fun hs_ => hs_.2.1) (fun hn_ => (Kd.fresh' (Kd.N_lt (by (with_reducible repeat (first | apply Kd.N_alloc | apply Kd.N_drewN | apply Kd.N_drew)); exact HO_5.out)) k_ hn_)), Or.elim hk_ (fun hs_ => hs_.2.2.1) (fun hn_ => (Kd.freshB (g := gb157) (o := .cells #[.int .i64 0, .string (⟨#[]⟩ : ByteArray), .slice none 0 0] 39 (0, 0)) (by (with_reducible repeat (first | refine blk_drewN ?_ _ | refine blk_drew ?_ | refine blk_alloc ?_ _)); exact BK157.out) k_ hn_)), Or.elim hk_ (fun hs_ => hs_.2.2.2) (fun hn_ => (Kd.freshB (g := gb158) (o := .cells #[.int .i64 x159000_1, .string x159001_1, .slice Ao37 x159002_1.length co37] 39 (0, 0)) (by (with_reducible repeat (first | refine blk_drewN ?_ _ | refine blk_drew ?_ | refine blk_alloc ?_ _)); exact BK158.out) k_ hn_))⟩)) (below_size (by repeat (first | (with_reducible first | exact HB.out | apply below_alloc | apply pw_below_drewN | apply below_drew1 | refine below_set ?_ GE157.out | refine below_set ?_ GE158.out) | exact HB.out))))
                  have n4_ := Aside0.mk (blk_below (g := gb157) (o := .cells #[.int .i64 0, .string (⟨#[]⟩ : ByteArray), .slice none 0 0] 39 (0, 0)) (by (with_reducible repeat (first | refine blk_drewN ?_ _ | refine blk_drew ?_ | refine blk_alloc ?_ _)); exact BK157.out) hb)
                  have n5_ := Aside0.mk (blk_below (g := gb158) (o := .cells #[.int .i64 x159000_1, .string x159001_1, .slice Ao37 x159002_1.length co37] 39 (0, 0)) (by (with_reducible repeat (first | refine blk_drewN ?_ _ | refine blk_drew ?_ | refine blk_alloc ?_ _)); exact BK158.out) hb)
                  have n6_ := Aside0.mk (below_step (by repeat (first | (with_reducible first | exact HB.out | apply below_alloc | apply pw_below_drewN | apply below_drew1 | refine below_set ?_ GE157.out | refine below_set ?_ GE158.out) | exact HB.out)) hb)
                  clear HO_5
                  clear HO_159002
                  clear BK157
                  clear BK158
                  clear HB
                  have HO_5 := n0_
                  have HO_159002 := n1_
                  have HO164 := n2_
                  have HO167 := n3_
                  have BK157 := n4_
                  have BK158 := n5_
                  have HB := n6_
                  clear n0_ n1_ n2_ n3_ n4_ n5_ n6_
                  (try clear hb)
                  (try clear hb2)
                  (try clear hk)
                  (try clear hi)
                  (try clear ho0)
                  (try clear ho1)
                  refine hK.out _ _ ⟨(blk_cell BK158.out 0).trans rfl, (blk_cell BK158.out 1).trans rfl, (blk_cell BK158.out 2).trans rfl, ((HB.out.cell (World.block_lt_of_cell? w _ hw159_0)).trans (by first | exact hw159_0 | (rw [hw159_0, ← Nbq10.out]))), ((HB.out.cell (World.block_lt_of_cell? w _ hw159_1)).trans (by first | exact hw159_1 | (rw [hw159_1, ← Nbq10.out])))⟩ (fun hHeld => ?_)
                  clear hK K
                  refine norm_ (a' := ?_) ?_ ?_
                  rotate_left
                  · show Act.put _ (some 23) _ = _
                    simp only [Act.put, List.setIfInBounds_toArray, List.set_cons_zero, List.set_cons_succ, i64_w, i32_w]
                    rfl
                  refine pure_ (i := 7) (N := some 16) (v := ?_) (a' := ?_) #[true, true, true, true, true, true, true, true, false, false, false, false, false] rfl rfl (any_of HT_.out (by kernel_rfl)) (fun _ _ _ h => h) (Or.inl ⟨by rfl, ?_⟩) ?_ ?_
                  rotate_left
                  · intro w'
                    go_simp
                    with_reducible rfl
                  rotate_left
                  · simp only [Act.put, List.setIfInBounds_toArray, List.set_cons_zero, List.set_cons_succ, i64_w, i32_w]
                    rfl
                  refine pure_ (i := 8) (N := some 24) (v := ?_) (a' := ?_) #[true, true, true, true, true, true, true, true, true, false, false, false, false] rfl rfl (any_of HT_.out (by kernel_rfl)) (fun _ _ _ h => h) (Or.inl ⟨by rfl, ?_⟩) ?_ ?_
                  rotate_left
                  · intro w'
                    go_simp
                    with_reducible rfl
                  rotate_left
                  · simp only [Act.put, List.setIfInBounds_toArray, List.set_cons_zero, List.set_cons_succ, i64_w, i32_w]
                    rfl
                  refine pure_ (i := 9) (N := some 25) (v := ?_) (a' := ?_) #[true, true, true, true, true, true, true, true, true, true, false, false, false] rfl rfl (any_of HT_.out (by kernel_rfl)) (fun _ _ _ h => h) (Or.inl ⟨by rfl, ?_⟩) ?_ ?_
                  rotate_left
                  · intro w'
                    go_simp
                    with_reducible rfl
                  rotate_left
                  · simp only [Act.put, List.setIfInBounds_toArray, List.set_cons_zero, List.set_cons_succ, i64_w, i32_w]
                    rfl
                  refine one_ (i := 10) (N := some 7) #[true, true, true, true, true, true, true, true, true, true, true, false, false] rfl rfl (one_of HT_.out (by kernel_rfl)) (by decide) (fun K hK => ?_)
                  refine box_step ?hg (N := 7) ?hd (cs := #[.int .i64 0, .string (⟨#[]⟩ : ByteArray), .slice none 0 0]) (t := 39) ?hr ?_; (case hd => rfl); (case hg => rfl); (case hr => first | (go_simp; done) | (go_simp; rfl))
                  intro gb168 hg w40 hbox hb
                  have n0_ := Aside0.mk (Kd.N_below (Kd.N_elderB (by (with_reducible repeat (first | apply Kd.N_alloc | apply Kd.N_drewN | apply Kd.N_drew)); exact HO_5.out) gb168 (Nat.le_of_eq hg.symm)) hb)
                  have n1_ := Aside0.mk (Kd.V_below (Kd.V_elderB (by (with_reducible repeat (first | apply Kd.V_alloc | apply Kd.V_drewN | apply Kd.V_drew)); exact HO_159002.out) gb168 (Nat.le_of_eq hg.symm)) hb)
                  have n2_ := Aside0.mk (Kd.V_below (Kd.V_elderB (by (with_reducible repeat (first | apply Kd.V_alloc | apply Kd.V_drewN | apply Kd.V_drew)); exact HO164.out) gb168 (Nat.le_of_eq hg.symm)) hb)
                  have n3_ := Aside0.mk (Kd.N_below (Kd.N_elderB (by (with_reducible repeat (first | apply Kd.N_alloc | apply Kd.N_drewN | apply Kd.N_drew)); exact HO167.out) gb168 (Nat.le_of_eq hg.symm)) hb)
                  have n4_ := Aside0.mk (blk_below (g := gb157) (o := .cells #[.int .i64 0, .string (⟨#[]⟩ : ByteArray), .slice none 0 0] 39 (0, 0)) (by (with_reducible repeat (first | refine blk_drewN ?_ _ | refine blk_drew ?_ | refine blk_alloc ?_ _)); exact BK157.out) hb)
                  have n5_ := Aside0.mk (blk_below (g := gb158) (o := .cells #[.int .i64 x159000_1, .string x159001_1, .slice Ao37 x159002_1.length co37] 39 (0, 0)) (by (with_reducible repeat (first | refine blk_drewN ?_ _ | refine blk_drew ?_ | refine blk_alloc ?_ _)); exact BK158.out) hb)
                  have n6_ := Aside0.mk (below_step (by repeat (first | (with_reducible first | exact HB.out | apply below_alloc | apply pw_below_drewN | apply below_drew1 | refine below_set ?_ GE157.out | refine below_set ?_ GE158.out) | exact HB.out)) hb)
                  have n7_ := Aside0.mk (hbox)
                  have n8_ := Aside0.mk ((by rw [hg]; exact (below_size (by repeat (first | (with_reducible first | exact HB.out | apply below_alloc | apply pw_below_drewN | apply below_drew1 | refine below_set ?_ GE157.out | refine below_set ?_ GE158.out) | exact HB.out))) : w.heap.size ≤ gb168))
                  have n9_ := Aside0.mk ((by rw [hg]; exact (below_size (by repeat (first | (with_reducible first | exact HB.out | apply below_alloc | apply pw_below_drewN | apply below_drew1 | refine below_set ?_ GE157.out | refine below_set ?_ GE158.out) | exact HB.out))) : w.heap.size ≤ gb168))
                  have n10_ := Aside0.mk ((by rw [hg]; exact Nat.ne_of_lt (blk_lt (g := gb157) (o := .cells #[.int .i64 0, .string (⟨#[]⟩ : ByteArray), .slice none 0 0] 39 (0, 0)) (by (with_reducible repeat (first | refine blk_drewN ?_ _ | refine blk_drew ?_ | refine blk_alloc ?_ _)); exact BK157.out)) : gb157 ≠ gb168))
                  have n11_ := Aside0.mk ((by rw [hg]; exact Nat.ne_of_gt (blk_lt (g := gb157) (o := .cells #[.int .i64 0, .string (⟨#[]⟩ : ByteArray), .slice none 0 0] 39 (0, 0)) (by (with_reducible repeat (first | refine blk_drewN ?_ _ | refine blk_drew ?_ | refine blk_alloc ?_ _)); exact BK157.out)) : gb168 ≠ gb157))
                  have n12_ := Aside0.mk ((by rw [hg]; exact Nat.ne_of_lt (blk_lt (g := gb158) (o := .cells #[.int .i64 x159000_1, .string x159001_1, .slice Ao37 x159002_1.length co37] 39 (0, 0)) (by (with_reducible repeat (first | refine blk_drewN ?_ _ | refine blk_drew ?_ | refine blk_alloc ?_ _)); exact BK158.out)) : gb158 ≠ gb168))
                  have n13_ := Aside0.mk ((by rw [hg]; exact Nat.ne_of_gt (blk_lt (g := gb158) (o := .cells #[.int .i64 x159000_1, .string x159001_1, .slice Ao37 x159002_1.length co37] 39 (0, 0)) (by (with_reducible repeat (first | refine blk_drewN ?_ _ | refine blk_drew ?_ | refine blk_alloc ?_ _)); exact BK158.out)) : gb168 ≠ gb158))
                  clear HO_5
                  clear HO_159002
                  clear HO164
                  clear HO167
                  clear BK157
                  clear BK158
                  clear HB
                  have HO_5 := n0_
                  have HO_159002 := n1_
                  have HO164 := n2_
                  have HO167 := n3_
                  have BK157 := n4_
                  have BK158 := n5_
                  have HB := n6_
                  have BK168 := n7_
                  have GW168 := n8_
                  have GE168 := n9_
                  have NB157_168 := n10_
                  have NB168_157 := n11_
                  have NB158_168 := n12_
                  have NB168_158 := n13_
                  clear n0_ n1_ n2_ n3_ n4_ n5_ n6_ n7_ n8_ n9_ n10_ n11_ n12_ n13_
                  clear hb hbox hg
                  refine hK.out _ _ ⟨(blk_cell BK158.out 0).trans rfl, (blk_cell BK158.out 1).trans rfl, (blk_cell BK158.out 2).trans rfl, ((HB.out.cell (World.block_lt_of_cell? w _ hw159_0)).trans (by first | exact hw159_0 | (rw [hw159_0, ← Nbq10.out]))), ((HB.out.cell (World.block_lt_of_cell? w _ hw159_1)).trans (by first | exact hw159_1 | (rw [hw159_1, ← Nbq10.out])))⟩ (fun hHeld => ?_)
                  clear hK K
                  refine norm_ (a' := ?_) ?_ ?_
                  rotate_left
                  · show Act.put _ (some 7) _ = _
                    simp only [Act.put, List.setIfInBounds_toArray, List.set_cons_zero, List.set_cons_succ, i64_w, i32_w]
                    rfl
                  exact norm_ (by simp only [putAll, Act.put, List.setIfInBounds_toArray, List.set_cons_zero, List.set_cons_succ]) (hCont (v163, v166, gb168) _ ⟨hHeld, (by (with_reducible repeat (first | apply Kd.V_alloc | apply Kd.V_drewN | apply Kd.V_drew)); exact Kd.V_mono HO164.out (fun _ hk => ⟨hk.1.1, ⟨hk.1.2.1, ⟨hk.1.2.2.1, ⟨hk.1.2.2.2.1, ⟨hk.1.2.2.2.2, hk.2⟩⟩⟩⟩⟩)), (by (with_reducible repeat (first | apply Kd.N_alloc | apply Kd.N_drewN | apply Kd.N_drew)); exact Kd.N_mono HO167.out (fun _ hk => ⟨hk.1.1, ⟨hk.1.2.1, ⟨hk.1.2.2.1, ⟨hk.1.2.2.2, hk.2⟩⟩⟩⟩)), (by (with_reducible repeat (first | apply Kd.V_alloc | apply Kd.V_drewN | apply Kd.V_drew)); exact Kd.V_mono HO_159002.out (fun _ hk => ⟨hk.1.1.1, ⟨hk.1.2, ⟨hk.1.1.2.1, ⟨hk.1.1.2.2.1, ⟨hk.1.1.2.2.2, hk.2⟩⟩⟩⟩⟩)), (by (with_reducible repeat (first | apply Kd.N_alloc | apply Kd.N_drewN | apply Kd.N_drew)); exact Kd.N_mono HO_5.out (fun _ hk => ⟨hk.1.1.1, ⟨hk.1.2, ⟨hk.1.1.2.1, ⟨hk.1.1.2.2, hk.2⟩⟩⟩⟩)), (by (with_reducible repeat (first | refine blk_drewN ?_ _ | refine blk_drew ?_ | refine blk_alloc ?_ _)); exact BK157.out), (by (with_reducible repeat (first | refine blk_drewN ?_ _ | refine blk_drew ?_ | refine blk_alloc ?_ _)); exact BK158.out), (by (with_reducible repeat (first | refine blk_drewN ?_ _ | refine blk_drew ?_ | refine blk_alloc ?_ _)); exact BK168.out), GW168.out, GE168.out, NB157_168.out, NB168_157.out, NB158_168.out, NB168_158.out, (by repeat (first | (with_reducible first | exact HB.out | apply below_alloc | apply pw_below_drewN | apply below_drew1 | refine below_set ?_ GE157.out | refine below_set ?_ GE158.out | refine below_set ?_ GE168.out) | exact HB.out))⟩)
                · skip
                  refine box_step ?hg (N := 7) ?hd (cs := #[.int .i64 0, .string (⟨#[]⟩ : ByteArray), .slice none 0 0]) (t := 39) ?hr ?_; (case hd => rfl); (case hg => rfl); (case hr => first | (go_simp; done) | (go_simp; rfl))
                  intro gb168 hg w39 hbox hb
                  have n0_ := Aside0.mk (Kd.N_below (Kd.N_elderB (by (with_reducible repeat (first | apply Kd.N_alloc | apply Kd.N_drewN | apply Kd.N_drew)); exact HO_5.out) gb168 (Nat.le_of_eq hg.symm)) hb)
                  have n1_ := Aside0.mk (Kd.V_below (Kd.V_elderB (by (with_reducible repeat (first | apply Kd.V_alloc | apply Kd.V_drewN | apply Kd.V_drew)); exact HO_159002.out) gb168 (Nat.le_of_eq hg.symm)) hb)
                  have n2_ := Aside0.mk (blk_below (g := gb157) (o := .cells #[.int .i64 0, .string (⟨#[]⟩ : ByteArray), .slice none 0 0] 39 (0, 0)) (by (with_reducible repeat (first | refine blk_drewN ?_ _ | refine blk_drew ?_ | refine blk_alloc ?_ _)); exact BK157.out) hb)
                  have n3_ := Aside0.mk (blk_below (g := gb158) (o := .cells #[.int .i64 x159000_1, .string x159001_1, .slice Ao37 x159002_1.length co37] 39 (0, 0)) (by (with_reducible repeat (first | refine blk_drewN ?_ _ | refine blk_drew ?_ | refine blk_alloc ?_ _)); exact BK158.out) hb)
                  have n4_ := Aside0.mk (below_step (by repeat (first | (with_reducible first | exact HB.out | apply below_alloc | apply pw_below_drewN | apply below_drew1 | refine below_set ?_ GE157.out | refine below_set ?_ GE158.out) | exact HB.out)) hb)
                  have n5_ := Aside0.mk (hbox)
                  have n6_ := Aside0.mk ((by rw [hg]; exact (below_size (by repeat (first | (with_reducible first | exact HB.out | apply below_alloc | apply pw_below_drewN | apply below_drew1 | refine below_set ?_ GE157.out | refine below_set ?_ GE158.out) | exact HB.out))) : w.heap.size ≤ gb168))
                  have n7_ := Aside0.mk ((by rw [hg]; exact (below_size (by repeat (first | (with_reducible first | exact HB.out | apply below_alloc | apply pw_below_drewN | apply below_drew1 | refine below_set ?_ GE157.out | refine below_set ?_ GE158.out) | exact HB.out))) : w.heap.size ≤ gb168))
                  have n8_ := Aside0.mk ((by rw [hg]; exact Nat.ne_of_lt (blk_lt (g := gb157) (o := .cells #[.int .i64 0, .string (⟨#[]⟩ : ByteArray), .slice none 0 0] 39 (0, 0)) (by (with_reducible repeat (first | refine blk_drewN ?_ _ | refine blk_drew ?_ | refine blk_alloc ?_ _)); exact BK157.out)) : gb157 ≠ gb168))
                  have n9_ := Aside0.mk ((by rw [hg]; exact Nat.ne_of_gt (blk_lt (g := gb157) (o := .cells #[.int .i64 0, .string (⟨#[]⟩ : ByteArray), .slice none 0 0] 39 (0, 0)) (by (with_reducible repeat (first | refine blk_drewN ?_ _ | refine blk_drew ?_ | refine blk_alloc ?_ _)); exact BK157.out)) : gb168 ≠ gb157))
                  have n10_ := Aside0.mk ((by rw [hg]; exact Nat.ne_of_lt (blk_lt (g := gb158) (o := .cells #[.int .i64 x159000_1, .string x159001_1, .slice Ao37 x159002_1.length co37] 39 (0, 0)) (by (with_reducible repeat (first | refine blk_drewN ?_ _ | refine blk_drew ?_ | refine blk_alloc ?_ _)); exact BK158.out)) : gb158 ≠ gb168))
                  have n11_ := Aside0.mk ((by rw [hg]; exact Nat.ne_of_gt (blk_lt (g := gb158) (o := .cells #[.int .i64 x159000_1, .string x159001_1, .slice Ao37 x159002_1.length co37] 39 (0, 0)) (by (with_reducible repeat (first | refine blk_drewN ?_ _ | refine blk_drew ?_ | refine blk_alloc ?_ _)); exact BK158.out)) : gb168 ≠ gb158))
                  clear HO_5
                  clear HO_159002
                  clear BK157
                  clear BK158
                  clear HB
                  have HO_5 := n0_
                  have HO_159002 := n1_
                  have BK157 := n2_
                  have BK158 := n3_
                  have HB := n4_
                  have BK168 := n5_
                  have GW168 := n6_
                  have GE168 := n7_
                  have NB157_168 := n8_
                  have NB168_157 := n9_
                  have NB158_168 := n10_
                  have NB168_158 := n11_
                  clear n0_ n1_ n2_ n3_ n4_ n5_ n6_ n7_ n8_ n9_ n10_ n11_
                  clear hb hbox hg
                  refine hK.out _ _ ⟨(blk_cell BK158.out 0).trans rfl, (blk_cell BK158.out 1).trans rfl, (blk_cell BK158.out 2).trans rfl, ((HB.out.cell (World.block_lt_of_cell? w _ hw159_0)).trans (by first | exact hw159_0 | (rw [hw159_0, ← Nbq10.out]))), ((HB.out.cell (World.block_lt_of_cell? w _ hw159_1)).trans (by first | exact hw159_1 | (rw [hw159_1, ← Nbq10.out])))⟩ (fun hHeld => ?_)
                  clear hK K
                  refine norm_ (a' := ?_) ?_ ?_
                  rotate_left
                  · show Act.put _ (some 7) _ = _
                    simp only [Act.put, List.setIfInBounds_toArray, List.set_cons_zero, List.set_cons_succ, i64_w, i32_w]
                    rfl
                  refine one_ (i := 6) (N := some 23) #[true, true, true, true, true, true, true, false, false, false, true, false, false] rfl rfl (one_of HT_.out (by kernel_rfl)) (by decide) (fun K hK => ?_)
                  refine goes_ Try.func38 (by kernel_rfl) rfl #[.agg #[.int .i64 x159000_1, .string x159001_1, .slice Ao37 x159002_1.length co37], .slice A159_0 ((rd_T56 l0 x6_1).f0).length c159_0] (by rfl) rfl rfl (by (try simp only [List.map_toArray, List.map_cons, List.map_nil]); first | done | rfl | (simp only [List.length_drop, List.length_take]; rfl)) ?_
                  with_reducible refine (cut_Feed.calls k1 x159000_1 x159001_1 (fun k_ => (((w.heap.size ≤ k_) ∧ (some k_ ≠ (u5 : Value).ownBlock ∧ (k_ ≠ gb157 ∧ k_ ≠ gb158))) ∧ k_ ≠ gb168)) _ _ x159002_1 _ _ ((rd_T56 l0 x6_1).f0) t160 t161 t162 t165 _ ?side1 ?side2 ?side3 A8.out).mono ?_
                  (case side1 => exact HO_159002.out)
                  (case side2 => repeat (first | exact (Kd.C_below HR159_0.out HB.out) | (with_reducible refine Kd.C_alloc ?_ _) | (with_reducible refine Kd.C_drewN ?_ _) | (with_reducible refine Kd.C_drew ?_)))
                  (case side3 => exact HC159_0.out)
                  rintro e w40 ⟨v163, v166, rfl, ho0, ho1, hb⟩
                  refine ⟨_, rfl, ?_⟩
                  have n0_ := Aside0.mk (Kd.N_elder' (by (with_reducible repeat (first | apply Kd.N_alloc | apply Kd.N_drewN | apply Kd.N_drew)); exact HO_5.out) (Kd.N_base ho1) hb)
                  have n1_ := Aside0.mk (Kd.V_elder' (by (with_reducible repeat (first | apply Kd.V_alloc | apply Kd.V_drewN | apply Kd.V_drew)); exact HO_159002.out) (Kd.N_base ho1) hb)
                  have n2_ := Aside0.mk (Kd.V_lower (Kd.V_mono (ok' := fun k_ => (w.heap.size ≤ k_) ∧ some k_ ≠ (v166 : Value).ownBlock ∧ some k_ ≠ (u5 : Value).ownBlock ∧ k_ ≠ gb157 ∧ k_ ≠ gb158 ∧ k_ ≠ gb168) ho0 (fun k_ hk_ => ⟨Or.elim hk_.1 (fun hs_ => hs_.1.1) (fun hn_ => (Nat.le_trans (below_size (by repeat (first | (with_reducible first | exact HB.out | apply below_alloc | apply pw_below_drewN | apply below_drew1 | refine below_set ?_ GE157.out | refine below_set ?_ GE158.out | refine below_set ?_ GE168.out) | exact HB.out))) hn_)), hk_.2, Or.elim hk_.1 (fun hs_ => hs_.1.2.1) (fun hn_ => (Kd.fresh' (Kd.N_lt (by (with_reducible repeat (first | apply Kd.N_alloc | apply Kd.N_drewN | apply Kd.N_drew)); exact HO_5.out)) k_ hn_)), Or.elim hk_.1 (fun hs_ => hs_.1.2.2.1) (fun hn_ => (Kd.freshB (g := gb157) (o := .cells #[.int .i64 0, .string (⟨#[]⟩ : ByteArray), .slice none 0 0] 39 (0, 0)) (by (with_reducible repeat (first | refine blk_drewN ?_ _ | refine blk_drew ?_ | refine blk_alloc ?_ _)); exact BK157.out) k_ hn_)), Or.elim hk_.1 (fun hs_ => hs_.1.2.2.2) (fun hn_ => (Kd.freshB (g := gb158) (o := .cells #[.int .i64 x159000_1, .string x159001_1, .slice Ao37 x159002_1.length co37] 39 (0, 0)) (by (with_reducible repeat (first | refine blk_drewN ?_ _ | refine blk_drew ?_ | refine blk_alloc ?_ _)); exact BK158.out) k_ hn_)), Or.elim hk_.1 (fun hs_ => hs_.2) (fun hn_ => (Kd.freshB (g := gb168) (o := .cells #[.int .i64 0, .string (⟨#[]⟩ : ByteArray), .slice none 0 0] 39 (0, 0)) (by (with_reducible repeat (first | refine blk_drewN ?_ _ | refine blk_drew ?_ | refine blk_alloc ?_ _)); exact BK168.out) k_ hn_))⟩)) (below_size (by repeat (first | (with_reducible first | exact HB.out | apply below_alloc | apply pw_below_drewN | apply below_drew1 | refine below_set ?_ GE157.out | refine below_set ?_ GE158.out | refine below_set ?_ GE168.out) | exact HB.out))))
                  have n3_ := Aside0.mk (Kd.N_lower (Kd.N_mono (ok' := fun k_ => (w.heap.size ≤ k_) ∧ some k_ ≠ (u5 : Value).ownBlock ∧ k_ ≠ gb157 ∧ k_ ≠ gb158 ∧ k_ ≠ gb168) ho1 (fun k_ hk_ => ⟨Or.elim hk_ (fun hs_ => hs_.1.1) (fun hn_ => (Nat.le_trans (below_size (by repeat (first | (with_reducible first | exact HB.out | apply below_alloc | apply pw_below_drewN | apply below_drew1 | refine below_set ?_ GE157.out | refine below_set ?_ GE158.out | refine below_set ?_ GE168.out) | exact HB.out))) hn_)), Or.elim hk_ (fun hs_ => hs_.1.2.1) (fun hn_ => (Kd.fresh' (Kd.N_lt (by (with_reducible repeat (first | apply Kd.N_alloc | apply Kd.N_drewN | apply Kd.N_drew)); exact HO_5.out)) k_ hn_)), Or.elim hk_ (fun hs_ => hs_.1.2.2.1) (fun hn_ => (Kd.freshB (g := gb157) (o := .cells #[.int .i64 0, .string (⟨#[]⟩ : ByteArray), .slice none 0 0] 39 (0, 0)) (by (with_reducible repeat (first | refine blk_drewN ?_ _ | refine blk_drew ?_ | refine blk_alloc ?_ _)); exact BK157.out) k_ hn_)), Or.elim hk_ (fun hs_ => hs_.1.2.2.2) (fun hn_ => (Kd.freshB (g := gb158) (o := .cells #[.int .i64 x159000_1, .string x159001_1, .slice Ao37 x159002_1.length co37] 39 (0, 0)) (by (with_reducible repeat (first | refine blk_drewN ?_ _ | refine blk_drew ?_ | refine blk_alloc ?_ _)); exact BK158.out) k_ hn_)), Or.elim hk_ (fun hs_ => hs_.2) (fun hn_ => (Kd.freshB (g := gb168) (o := .cells #[.int .i64 0, .string (⟨#[]⟩ : ByteArray), .slice none 0 0] 39 (0, 0)) (by (with_reducible repeat (first | refine blk_drewN ?_ _ | refine blk_drew ?_ | refine blk_alloc ?_ _)); exact BK168.out) k_ hn_))⟩)) (below_size (by repeat (first | (with_reducible first | exact HB.out | apply below_alloc | apply pw_below_drewN | apply below_drew1 | refine below_set ?_ GE157.out | refine below_set ?_ GE158.out | refine below_set ?_ GE168.out) | exact HB.out))))
                  have n4_ := Aside0.mk (blk_below (g := gb157) (o := .cells #[.int .i64 0, .string (⟨#[]⟩ : ByteArray), .slice none 0 0] 39 (0, 0)) (by (with_reducible repeat (first | refine blk_drewN ?_ _ | refine blk_drew ?_ | refine blk_alloc ?_ _)); exact BK157.out) hb)
                  have n5_ := Aside0.mk (blk_below (g := gb158) (o := .cells #[.int .i64 x159000_1, .string x159001_1, .slice Ao37 x159002_1.length co37] 39 (0, 0)) (by (with_reducible repeat (first | refine blk_drewN ?_ _ | refine blk_drew ?_ | refine blk_alloc ?_ _)); exact BK158.out) hb)
                  have n6_ := Aside0.mk (blk_below (g := gb168) (o := .cells #[.int .i64 0, .string (⟨#[]⟩ : ByteArray), .slice none 0 0] 39 (0, 0)) (by (with_reducible repeat (first | refine blk_drewN ?_ _ | refine blk_drew ?_ | refine blk_alloc ?_ _)); exact BK168.out) hb)
                  have n7_ := Aside0.mk (below_step (by repeat (first | (with_reducible first | exact HB.out | apply below_alloc | apply pw_below_drewN | apply below_drew1 | refine below_set ?_ GE157.out | refine below_set ?_ GE158.out | refine below_set ?_ GE168.out) | exact HB.out)) hb)
                  clear HO_5
                  clear HO_159002
                  clear BK157
                  clear BK158
                  clear BK168
                  clear HB
                  have HO_5 := n0_
                  have HO_159002 := n1_
                  have HO164 := n2_
                  have HO167 := n3_
                  have BK157 := n4_
                  have BK158 := n5_
                  have BK168 := n6_
                  have HB := n7_
                  clear n0_ n1_ n2_ n3_ n4_ n5_ n6_ n7_
                  (try clear hb)
                  (try clear hb2)
                  (try clear hk)
                  (try clear hi)
                  (try clear ho0)
                  (try clear ho1)
                  refine hK.out _ _ ⟨(blk_cell BK158.out 0).trans rfl, (blk_cell BK158.out 1).trans rfl, (blk_cell BK158.out 2).trans rfl, ((HB.out.cell (World.block_lt_of_cell? w _ hw159_0)).trans (by first | exact hw159_0 | (rw [hw159_0, ← Nbq10.out]))), ((HB.out.cell (World.block_lt_of_cell? w _ hw159_1)).trans (by first | exact hw159_1 | (rw [hw159_1, ← Nbq10.out])))⟩ (fun hHeld => ?_)
                  clear hK K
                  refine norm_ (a' := ?_) ?_ ?_
                  rotate_left
                  · show Act.put _ (some 23) _ = _
                    simp only [Act.put, List.setIfInBounds_toArray, List.set_cons_zero, List.set_cons_succ, i64_w, i32_w]
                    rfl
                  refine pure_ (i := 7) (N := some 16) (v := ?_) (a' := ?_) #[true, true, true, true, true, true, true, true, false, false, true, false, false] rfl rfl (any_of HT_.out (by kernel_rfl)) (fun _ _ _ h => h) (Or.inl ⟨by rfl, ?_⟩) ?_ ?_
                  rotate_left
                  · intro w'
                    go_simp
                    with_reducible rfl
                  rotate_left
                  · simp only [Act.put, List.setIfInBounds_toArray, List.set_cons_zero, List.set_cons_succ, i64_w, i32_w]
                    rfl
                  refine pure_ (i := 8) (N := some 24) (v := ?_) (a' := ?_) #[true, true, true, true, true, true, true, true, true, false, true, false, false] rfl rfl (any_of HT_.out (by kernel_rfl)) (fun _ _ _ h => h) (Or.inl ⟨by rfl, ?_⟩) ?_ ?_
                  rotate_left
                  · intro w'
                    go_simp
                    with_reducible rfl
                  rotate_left
                  · simp only [Act.put, List.setIfInBounds_toArray, List.set_cons_zero, List.set_cons_succ, i64_w, i32_w]
                    rfl
                  refine pure_ (i := 9) (N := some 25) (v := ?_) (a' := ?_) #[true, true, true, true, true, true, true, true, true, true, true, false, false] rfl rfl (any_of HT_.out (by kernel_rfl)) (fun _ _ _ h => h) (Or.inl ⟨by rfl, ?_⟩) ?_ ?_
                  rotate_left
                  · intro w'
                    go_simp
                    with_reducible rfl
                  rotate_left
                  · simp only [Act.put, List.setIfInBounds_toArray, List.set_cons_zero, List.set_cons_succ, i64_w, i32_w]
                    rfl
                  exact norm_ (by simp only [putAll, Act.put, List.setIfInBounds_toArray, List.set_cons_zero, List.set_cons_succ]) (hCont (v163, v166, gb168) _ ⟨hHeld, (by (with_reducible repeat (first | apply Kd.V_alloc | apply Kd.V_drewN | apply Kd.V_drew)); exact HO164.out), (by (with_reducible repeat (first | apply Kd.N_alloc | apply Kd.N_drewN | apply Kd.N_drew)); exact HO167.out), (by (with_reducible repeat (first | apply Kd.V_alloc | apply Kd.V_drewN | apply Kd.V_drew)); exact Kd.V_mono HO_159002.out (fun _ hk => ⟨hk.1.1.1, ⟨hk.2, ⟨hk.1.1.2.1, ⟨hk.1.1.2.2.1, ⟨hk.1.1.2.2.2, hk.1.2⟩⟩⟩⟩⟩)), (by (with_reducible repeat (first | apply Kd.N_alloc | apply Kd.N_drewN | apply Kd.N_drew)); exact Kd.N_mono HO_5.out (fun _ hk => ⟨hk.1.1.1, ⟨hk.2, ⟨hk.1.1.2.1, ⟨hk.1.1.2.2, hk.1.2⟩⟩⟩⟩)), (by (with_reducible repeat (first | refine blk_drewN ?_ _ | refine blk_drew ?_ | refine blk_alloc ?_ _)); exact BK157.out), (by (with_reducible repeat (first | refine blk_drewN ?_ _ | refine blk_drew ?_ | refine blk_alloc ?_ _)); exact BK158.out), (by (with_reducible repeat (first | refine blk_drewN ?_ _ | refine blk_drew ?_ | refine blk_alloc ?_ _)); exact BK168.out), GW168.out, GE168.out, NB157_168.out, NB168_157.out, NB158_168.out, NB168_158.out, (by repeat (first | (with_reducible first | exact HB.out | apply below_alloc | apply pw_below_drewN | apply below_drew1 | refine below_set ?_ GE157.out | refine below_set ?_ GE158.out | refine below_set ?_ GE168.out) | exact HB.out))⟩)
              rintro ⟨v163, v166, gb168⟩ w41 ⟨hS_, h0_, h1_, h2_, h3_, h4_, h5_, h6_, h7_, h8_, h9_, h10_, h11_, h12_, h13_⟩
              have n0_ : Aside0 (Kd.V Kd.string 9 w41 w.heap.size (fun k_ => (w.heap.size ≤ k_) ∧ some k_ ≠ (v166 : Value).ownBlock ∧ some k_ ≠ (u5 : Value).ownBlock ∧ k_ ≠ gb157 ∧ k_ ≠ gb158 ∧ k_ ≠ gb168) v163 t162) := ⟨h0_⟩
              have n1_ : Aside0 (Kd.N k40 40 w41 w.heap.size (fun k_ => (w.heap.size ≤ k_) ∧ some k_ ≠ (u5 : Value).ownBlock ∧ k_ ≠ gb157 ∧ k_ ≠ gb158 ∧ k_ ≠ gb168) v166 t165) := ⟨h1_⟩
              have n2_ : Aside0 (Kd.V Kd.string 9 w41 w.heap.size (fun k_ => (w.heap.size ≤ k_) ∧ some k_ ≠ (v166 : Value).ownBlock ∧ some k_ ≠ (u5 : Value).ownBlock ∧ k_ ≠ gb157 ∧ k_ ≠ gb158 ∧ k_ ≠ gb168) (.slice Ao37 x159002_1.length co37) x159002_1) := ⟨h2_⟩
              have n3_ : Aside0 (Kd.N k40 40 w41 w.heap.size (fun k_ => (w.heap.size ≤ k_) ∧ some k_ ≠ (v166 : Value).ownBlock ∧ k_ ≠ gb157 ∧ k_ ≠ gb158 ∧ k_ ≠ gb168) u5 x5_1) := ⟨h3_⟩
              have n4_ : Aside0 (w41.heap[gb157]? = some (.cells #[.int .i64 0, .string (⟨#[]⟩ : ByteArray), .slice none 0 0] 39 (0, 0))) := ⟨h4_⟩
              have n5_ : Aside0 (w41.heap[gb158]? = some (.cells #[.int .i64 x159000_1, .string x159001_1, .slice Ao37 x159002_1.length co37] 39 (0, 0))) := ⟨h5_⟩
              have n6_ : Aside0 (w41.heap[gb168]? = some (.cells #[.int .i64 0, .string (⟨#[]⟩ : ByteArray), .slice none 0 0] 39 (0, 0))) := ⟨h6_⟩
              have n7_ : Aside0 (w.heap.size ≤ gb168) := ⟨h7_⟩
              have n8_ : Aside0 (w.heap.size ≤ gb168) := ⟨h8_⟩
              have n9_ : Aside0 (gb157 ≠ gb168) := ⟨h9_⟩
              have n10_ : Aside0 (gb168 ≠ gb157) := ⟨h10_⟩
              have n11_ : Aside0 (gb158 ≠ gb168) := ⟨h11_⟩
              have n12_ : Aside0 (gb168 ≠ gb158) := ⟨h12_⟩
              have n13_ : Aside0 (Below w.heap.size w w41) := ⟨h13_⟩
              clear HO_5
              clear HO_159002
              clear BK157
              clear BK158
              clear HB
              clear h0_ h1_ h2_ h3_ h4_ h5_ h6_ h7_ h8_ h9_ h10_ h11_ h12_ h13_
              have HO164 := n0_
              have HO167 := n1_
              have HO_159002 := n2_
              have HO_5 := n3_
              have BK157 := n4_
              have BK158 := n5_
              have BK168 := n6_
              have GW168 := n7_
              have GE168 := n8_
              have NB157_168 := n9_
              have NB168_157 := n10_
              have NB158_168 := n11_
              have NB168_158 := n12_
              have HB := n13_
              clear n0_ n1_ n2_ n3_ n4_ n5_ n6_ n7_ n8_ n9_ n10_ n11_ n12_ n13_
              have hHeld : w41.cell? ⟨gb158, 0, none⟩ = some (.int .i64 x159000_1) ∧ w41.cell? ⟨gb158, 1, none⟩ = some (.string x159001_1) ∧ w41.cell? ⟨gb158, 2, none⟩ = some (.slice Ao37 x159002_1.length co37) ∧ w41.cell? (ad159.add ((x6_1).toNat * 2)) = some (.slice A159_0 ((rd_T56 l0 x6_1).f0).length c159_0) ∧ w41.cell? ⟨(ad159.add ((x6_1).toNat * 2)).block, (ad159.add ((x6_1).toNat * 2)).off + 1, none⟩ = some (.bool false) := hS_
              obtain ⟨Ao44, co44, eo44⟩ := Kd.V_slice HO164.out
              (first | subst eo44 | (injection eo44 with f1_ f2_ f3_; have f4_ := f1_.symm; have f5_ := f3_.symm; clear f1_ f2_ f3_; subst f4_; subst f5_))
              refine norm_ (a' := ?_) ?_ ?_
              rotate_left
              · simp only [putAll, Act.put, List.setIfInBounds_toArray, List.set_cons_zero, List.set_cons_succ]
                rfl
              refine one_ (i := 11) (N := none) #[true, true, true, true, true, true, true, true, true, true, true, true, false] rfl rfl (one_of HT_.out (by kernel_rfl)) (by decide) (fun K hK => ?_)
              have hs42 : w41.cell? ⟨gb168, 0, none⟩ = some (.int .i64 0) := (blk_cell BK168.out 0).trans rfl
              have hfs42 := blk_frozen BK168.out 0
              have hns42_0 := NB157_168.out
              have hns42_1 := NB158_168.out
              have hms42_0 := NB168_157.out
              have hms42_1 := NB168_158.out
              have hs43 : w41.cell? ⟨gb168, 1, none⟩ = some (.string (⟨#[]⟩ : ByteArray)) := (blk_cell BK168.out 1).trans rfl
              have hfs43 := blk_frozen BK168.out 1
              have hns43_0 := NB157_168.out
              have hns43_1 := NB158_168.out
              have hms43_0 := NB168_157.out
              have hms43_1 := NB168_158.out
              have hs45 : w41.cell? ⟨gb168, 2, none⟩ = some (.slice none 0 0) := (blk_cell BK168.out 2).trans rfl
              have hfs45 := blk_frozen BK168.out 2
              have hns45_0 := NB157_168.out
              have hns45_1 := NB158_168.out
              have hms45_0 := NB168_157.out
              have hms45_1 := NB168_158.out
              refine skip_ (w1 := ?_) (by rfl) rfl ?_ ?_
              rotate_left
              · go_simp
                rfl
              refine hK.out _ _ ⟨((cell_far (p := ⟨gb168, _, none⟩) NB158_168.out _).trans (((cell_far (p := ⟨gb168, _, none⟩) NB158_168.out _).trans (((cell_far (p := ⟨gb168, _, none⟩) NB158_168.out _).trans (hHeld.1)))))), ((cell_far (p := ⟨gb168, _, none⟩) NB158_168.out _).trans (((cell_far (p := ⟨gb168, _, none⟩) NB158_168.out _).trans (((cell_far (p := ⟨gb168, _, none⟩) NB158_168.out _).trans (hHeld.2.1)))))), ((cell_far (p := ⟨gb168, _, none⟩) NB158_168.out _).trans (((cell_far (p := ⟨gb168, _, none⟩) NB158_168.out _).trans (((cell_far (p := ⟨gb168, _, none⟩) NB158_168.out _).trans (hHeld.2.2.1)))))), ((cell_far (p := ⟨gb168, _, none⟩) (by first | exact Nat.ne_of_lt (Nat.lt_of_lt_of_le (by have := World.block_lt_of_cell? _ _ hw159_0; first | rwa [add_block] at this | exact this) GW168.out) | (rw [add_block]; exact Nat.ne_of_lt (Nat.lt_of_lt_of_le (by have := World.block_lt_of_cell? _ _ hw159_0; first | rwa [add_block] at this | exact this) GW168.out)) | (show (Addr.add _ _).block ≠ _; rw [add_block]; exact Nat.ne_of_lt (Nat.lt_of_lt_of_le (by have := World.block_lt_of_cell? _ _ hw159_0; first | rwa [add_block] at this | exact this) GW168.out)) | (dsimp only; exact Nat.ne_of_lt (Nat.lt_of_lt_of_le (by have := World.block_lt_of_cell? _ _ hw159_0; first | rwa [add_block] at this | exact this) GW168.out))) _).trans (((cell_far (p := ⟨gb168, _, none⟩) (by first | exact Nat.ne_of_lt (Nat.lt_of_lt_of_le (by have := World.block_lt_of_cell? _ _ hw159_0; first | rwa [add_block] at this | exact this) GW168.out) | (rw [add_block]; exact Nat.ne_of_lt (Nat.lt_of_lt_of_le (by have := World.block_lt_of_cell? _ _ hw159_0; first | rwa [add_block] at this | exact this) GW168.out)) | (show (Addr.add _ _).block ≠ _; rw [add_block]; exact Nat.ne_of_lt (Nat.lt_of_lt_of_le (by have := World.block_lt_of_cell? _ _ hw159_0; first | rwa [add_block] at this | exact this) GW168.out)) | (dsimp only; exact Nat.ne_of_lt (Nat.lt_of_lt_of_le (by have := World.block_lt_of_cell? _ _ hw159_0; first | rwa [add_block] at this | exact this) GW168.out))) _).trans (((cell_far (p := ⟨gb168, _, none⟩) (by first | exact Nat.ne_of_lt (Nat.lt_of_lt_of_le (by have := World.block_lt_of_cell? _ _ hw159_0; first | rwa [add_block] at this | exact this) GW168.out) | (rw [add_block]; exact Nat.ne_of_lt (Nat.lt_of_lt_of_le (by have := World.block_lt_of_cell? _ _ hw159_0; first | rwa [add_block] at this | exact this) GW168.out)) | (show (Addr.add _ _).block ≠ _; rw [add_block]; exact Nat.ne_of_lt (Nat.lt_of_lt_of_le (by have := World.block_lt_of_cell? _ _ hw159_0; first | rwa [add_block] at this | exact this) GW168.out)) | (dsimp only; exact Nat.ne_of_lt (Nat.lt_of_lt_of_le (by have := World.block_lt_of_cell? _ _ hw159_0; first | rwa [add_block] at this | exact this) GW168.out))) _).trans (hHeld.2.2.2.1)))))), ((cell_far (p := ⟨gb168, _, none⟩) (by first | exact Nat.ne_of_lt (Nat.lt_of_lt_of_le (by have := World.block_lt_of_cell? _ _ hw159_1; first | rwa [add_block] at this | exact this) GW168.out) | (rw [add_block]; exact Nat.ne_of_lt (Nat.lt_of_lt_of_le (by have := World.block_lt_of_cell? _ _ hw159_1; first | rwa [add_block] at this | exact this) GW168.out)) | (show (Addr.add _ _).block ≠ _; rw [add_block]; exact Nat.ne_of_lt (Nat.lt_of_lt_of_le (by have := World.block_lt_of_cell? _ _ hw159_1; first | rwa [add_block] at this | exact this) GW168.out)) | (dsimp only; exact Nat.ne_of_lt (Nat.lt_of_lt_of_le (by have := World.block_lt_of_cell? _ _ hw159_1; first | rwa [add_block] at this | exact this) GW168.out))) _).trans (((cell_far (p := ⟨gb168, _, none⟩) (by first | exact Nat.ne_of_lt (Nat.lt_of_lt_of_le (by have := World.block_lt_of_cell? _ _ hw159_1; first | rwa [add_block] at this | exact this) GW168.out) | (rw [add_block]; exact Nat.ne_of_lt (Nat.lt_of_lt_of_le (by have := World.block_lt_of_cell? _ _ hw159_1; first | rwa [add_block] at this | exact this) GW168.out)) | (show (Addr.add _ _).block ≠ _; rw [add_block]; exact Nat.ne_of_lt (Nat.lt_of_lt_of_le (by have := World.block_lt_of_cell? _ _ hw159_1; first | rwa [add_block] at this | exact this) GW168.out)) | (dsimp only; exact Nat.ne_of_lt (Nat.lt_of_lt_of_le (by have := World.block_lt_of_cell? _ _ hw159_1; first | rwa [add_block] at this | exact this) GW168.out))) _).trans (((cell_far (p := ⟨gb168, _, none⟩) (by first | exact Nat.ne_of_lt (Nat.lt_of_lt_of_le (by have := World.block_lt_of_cell? _ _ hw159_1; first | rwa [add_block] at this | exact this) GW168.out) | (rw [add_block]; exact Nat.ne_of_lt (Nat.lt_of_lt_of_le (by have := World.block_lt_of_cell? _ _ hw159_1; first | rwa [add_block] at this | exact this) GW168.out)) | (show (Addr.add _ _).block ≠ _; rw [add_block]; exact Nat.ne_of_lt (Nat.lt_of_lt_of_le (by have := World.block_lt_of_cell? _ _ hw159_1; first | rwa [add_block] at this | exact this) GW168.out)) | (dsimp only; exact Nat.ne_of_lt (Nat.lt_of_lt_of_le (by have := World.block_lt_of_cell? _ _ hw159_1; first | rwa [add_block] at this | exact this) GW168.out))) _).trans (hHeld.2.2.2.2))))))⟩ (fun hHeld => ?_)
              clear hK K
              refine pure_ (i := 12) (N := some 8) (v := ?_) (a' := ?_) #[true, true, true, true, true, true, true, true, true, true, true, true, true] rfl rfl (any_of HT_.out (by kernel_rfl)) (fun _ _ _ h => h) (Or.inl ⟨by rfl, ?_⟩) ?_ ?_
              rotate_left
              · intro w'
                go_simp
                with_reducible rfl
              rotate_left
              · simp only [Act.put, List.setIfInBounds_toArray, List.set_cons_zero, List.set_cons_succ, i64_w, i32_w]
                rfl
              refine done_ (done_of HT_.out (by kernel_rfl)) ?_
              have hnb46 := NB168_157.out
              have hnc46 := NB157_168.out
              have hnb47 := NB168_158.out
              have hnc47 := NB158_168.out
              have hcz48_0 : w41.cell? ⟨gb168, 0, none⟩ = some (.int .i64 0) := (blk_cell BK168.out 0).trans rfl
              have hcz48_1 : w41.cell? ⟨gb168, 1, none⟩ = some (.string (⟨#[]⟩ : ByteArray)) := (blk_cell BK168.out 1).trans rfl
              have hcz48_2 : w41.cell? ⟨gb168, 2, none⟩ = some (.slice none 0 0) := (blk_cell BK168.out 2).trans rfl
              have hfz48_0 := blk_frozen BK168.out 0
              have hfz48_1 := blk_frozen BK168.out 1
              have hfz48_2 := blk_frozen BK168.out 2
              have hnb49 := NB158_157.out
              have hnc49 := NB157_158.out
              have hcz50_0 : w41.cell? ⟨gb158, 0, none⟩ = some (.int .i64 x159000_1) := (blk_cell BK158.out 0).trans rfl
              have hcz50_1 : w41.cell? ⟨gb158, 1, none⟩ = some (.string x159001_1) := (blk_cell BK158.out 1).trans rfl
              have hcz50_2 : w41.cell? ⟨gb158, 2, none⟩ = some (.slice Ao37 x159002_1.length co37) := (blk_cell BK158.out 2).trans rfl
              have hfz50_0 := blk_frozen BK158.out 0
              have hfz50_1 := blk_frozen BK158.out 1
              have hfz50_2 := blk_frozen BK158.out 2
              obtain ⟨Ao52, co52, eo52⟩ := Kd.N_slice HO167.out
              subst eo52
              try go_wp2_with (first | ((with_reducible refine gate_builtin (b := .append) (xs := #[.tmp 27, .tmp 28]) rfl ?_); at_builtin; refine Kd.N_append_rows k40 (w0 := w) w.heap.size rfl (.tmp 27) (.tmp 28) 43 40 (.agg #[(.int .i64 0), (.string ⟨#[]⟩), (.slice none 0 0)]) 48 rfl Try.underlying43 info40 rfl (by decide) (by omega) u5 x5_1 t165 _ _ _ (fun k_ => (w.heap.size ≤ k_) ∧ k_ ≠ gb157 ∧ k_ ≠ gb158 ∧ k_ ≠ gb168) (fun k_ => ((fun k_ => (w.heap.size ≤ k_) ∧ k_ ≠ gb157 ∧ k_ ≠ gb158 ∧ k_ ≠ gb168)) k_ ∧ some k_ ≠ (u5 : Value).ownBlock) rfl rfl ?aO ?aR (fun _ hk => hk) ?aF ?aB ?aS ?aL ?_; (case aR => exact (by skip; exact Kd.N_F (Kd.N_mono (ok' := (fun k_ => ((fun k_ => (w.heap.size ≤ k_) ∧ k_ ≠ gb157 ∧ k_ ≠ gb158 ∧ k_ ≠ gb168)) k_ ∧ some k_ ≠ (u5 : Value).ownBlock)) ((Kd.N_far (p := ⟨gb158, 2, none⟩) (Kd.N_far (p := ⟨gb158, 1, none⟩) (Kd.N_far (p := ⟨gb158, 0, none⟩) (Kd.N_far (p := ⟨gb168, 2, none⟩) (Kd.N_far (p := ⟨gb168, 1, none⟩) (Kd.N_far (p := ⟨gb168, 0, none⟩) (Kd.N_mono (Kd.N_mono HO167.out (fun k_ hk => (⟨hk, hk.2.2.2.2⟩ : _ ∧ k_ ≠ gb168))) (fun k_ hk => (⟨hk, hk.1.2.2.2.1⟩ : _ ∧ k_ ≠ gb158))) (fun _ hk => hk.1.2) (.int .i64 t160)) (fun _ hk => hk.1.2) (.string t161)) (fun _ hk => hk.1.2) (.slice Ao44 t162.length co44)) (fun _ hk => hk.2) (.int .i64 t160)) (fun _ hk => hk.2) (.string t161)) (fun _ hk => hk.2) (.slice Ao44 t162.length co44))) (fun k_ hk => ⟨⟨hk.1.1.1, ⟨hk.1.1.2.2.1, ⟨hk.1.1.2.2.2.1, hk.1.1.2.2.2.2⟩⟩⟩, hk.1.1.2.1⟩)))); (case aB => exact (by repeat (first | (with_reducible first | exact HB.out | apply below_alloc | apply pw_below_drewN | apply below_drew1 | refine below_set ?_ GE157.out | refine below_set ?_ GE158.out | refine below_set ?_ GE168.out) | exact HB.out))); (case aF => exact (fun k_ hk => ⟨(Nat.le_trans (below_size (by repeat (first | (with_reducible first | exact HB.out | apply below_alloc | apply pw_below_drewN | apply below_drew1 | refine below_set ?_ GE157.out | refine below_set ?_ GE158.out | refine below_set ?_ GE168.out) | exact HB.out))) hk), Kd.freshB (g := gb157) (o := .cells #[.int .i64 0, .string (⟨#[]⟩ : ByteArray), .slice none 0 0] 39 (0, 0)) (by (with_reducible repeat (first | refine blk_drewN ?_ _ | refine blk_drew ?_ | refine blk_alloc ?_ _)); refine blk_far ?_ NB157_158.out _; (with_reducible repeat (first | refine blk_drewN ?_ _ | refine blk_drew ?_ | refine blk_alloc ?_ _)); refine blk_far ?_ NB157_158.out _; (with_reducible repeat (first | refine blk_drewN ?_ _ | refine blk_drew ?_ | refine blk_alloc ?_ _)); refine blk_far ?_ NB157_158.out _; (with_reducible repeat (first | refine blk_drewN ?_ _ | refine blk_drew ?_ | refine blk_alloc ?_ _)); refine blk_far ?_ NB157_168.out _; (with_reducible repeat (first | refine blk_drewN ?_ _ | refine blk_drew ?_ | refine blk_alloc ?_ _)); refine blk_far ?_ NB157_168.out _; (with_reducible repeat (first | refine blk_drewN ?_ _ | refine blk_drew ?_ | refine blk_alloc ?_ _)); refine blk_far ?_ NB157_168.out _; (with_reducible repeat (first | refine blk_drewN ?_ _ | refine blk_drew ?_ | refine blk_alloc ?_ _)); exact BK157.out) k_ hk, Kd.freshB (g := gb158) (o := .cells #[.int .i64 t160, .string t161, .slice Ao44 t162.length co44] 39 (0, 0)) (by (with_reducible repeat (first | refine blk_drewN ?_ _ | refine blk_drew ?_ | refine blk_alloc ?_ _)); refine blk_put (cs := #[.int .i64 t160, .string t161, .slice Ao37 x159002_1.length co37]) ?_ 2 _ rfl; (with_reducible repeat (first | refine blk_drewN ?_ _ | refine blk_drew ?_ | refine blk_alloc ?_ _)); refine blk_put (cs := #[.int .i64 t160, .string x159001_1, .slice Ao37 x159002_1.length co37]) ?_ 1 _ rfl; (with_reducible repeat (first | refine blk_drewN ?_ _ | refine blk_drew ?_ | refine blk_alloc ?_ _)); refine blk_put (cs := #[.int .i64 x159000_1, .string x159001_1, .slice Ao37 x159002_1.length co37]) ?_ 0 _ rfl; (with_reducible repeat (first | refine blk_drewN ?_ _ | refine blk_drew ?_ | refine blk_alloc ?_ _)); refine blk_far ?_ NB158_168.out _; (with_reducible repeat (first | refine blk_drewN ?_ _ | refine blk_drew ?_ | refine blk_alloc ?_ _)); refine blk_far ?_ NB158_168.out _; (with_reducible repeat (first | refine blk_drewN ?_ _ | refine blk_drew ?_ | refine blk_alloc ?_ _)); refine blk_far ?_ NB158_168.out _; (with_reducible repeat (first | refine blk_drewN ?_ _ | refine blk_drew ?_ | refine blk_alloc ?_ _)); exact BK158.out) k_ hk, Kd.freshB (g := gb168) (o := .cells #[.int .i64 t160, .string t161, .slice Ao44 t162.length co44] 39 (0, 0)) (by (with_reducible repeat (first | refine blk_drewN ?_ _ | refine blk_drew ?_ | refine blk_alloc ?_ _)); refine blk_far ?_ NB168_158.out _; (with_reducible repeat (first | refine blk_drewN ?_ _ | refine blk_drew ?_ | refine blk_alloc ?_ _)); refine blk_far ?_ NB168_158.out _; (with_reducible repeat (first | refine blk_drewN ?_ _ | refine blk_drew ?_ | refine blk_alloc ?_ _)); refine blk_far ?_ NB168_158.out _; (with_reducible repeat (first | refine blk_drewN ?_ _ | refine blk_drew ?_ | refine blk_alloc ?_ _)); refine blk_put (cs := #[.int .i64 t160, .string t161, .slice none 0 0]) ?_ 2 _ rfl; (with_reducible repeat (first | refine blk_drewN ?_ _ | refine blk_drew ?_ | refine blk_alloc ?_ _)); refine blk_put (cs := #[.int .i64 t160, .string (⟨#[]⟩ : ByteArray), .slice none 0 0]) ?_ 1 _ rfl; (with_reducible repeat (first | refine blk_drewN ?_ _ | refine blk_drew ?_ | refine blk_alloc ?_ _)); refine blk_put (cs := #[.int .i64 0, .string (⟨#[]⟩ : ByteArray), .slice none 0 0]) ?_ 0 _ rfl; (with_reducible repeat (first | refine blk_drewN ?_ _ | refine blk_drew ?_ | refine blk_alloc ?_ _)); exact BK168.out) k_ hk⟩)); (case aO => exact (by (with_reducible repeat (first | apply Kd.N_alloc | apply Kd.N_drewN | apply Kd.N_drew)); exact Kd.N_mono (Kd.N_far (p := ⟨gb158, 2, none⟩) (Kd.N_far (p := ⟨gb158, 1, none⟩) (Kd.N_far (p := ⟨gb158, 0, none⟩) (Kd.N_far (p := ⟨gb168, 2, none⟩) (Kd.N_far (p := ⟨gb168, 1, none⟩) (Kd.N_far (p := ⟨gb168, 0, none⟩) (Kd.N_mono (Kd.N_mono HO_5.out (fun k_ hk => (⟨hk, hk.2.2.2.2⟩ : _ ∧ k_ ≠ gb168))) (fun k_ hk => (⟨hk, hk.1.2.2.2.1⟩ : _ ∧ k_ ≠ gb158))) (fun _ hk => hk.1.2) (.int .i64 t160)) (fun _ hk => hk.1.2) (.string t161)) (fun _ hk => hk.1.2) (.slice Ao44 t162.length co44)) (fun _ hk => hk.2) (.int .i64 t160)) (fun _ hk => hk.2) (.string t161)) (fun _ hk => hk.2) (.slice Ao44 t162.length co44)) (fun _ hk => ⟨hk.1.1.1, ⟨hk.1.1.2.2.1, ⟨hk.1.1.2.2.2.1, hk.1.1.2.2.2.2⟩⟩⟩))); (case aS => exact (below_size (by repeat (first | (with_reducible first | exact HB.out | apply below_alloc | apply pw_below_drewN | apply below_drew1 | refine below_set ?_ GE157.out | refine below_set ?_ GE158.out | refine below_set ?_ GE168.out) | exact HB.out)))); (case aL => have := LMc9.out; omega); intro v170 w51 ho hb hg hat; rw [← Ny169.out] at ho; have n0_ := Aside0.mk (Kd.V_afterv (ok := (fun k_ => (w.heap.size ≤ k_) ∧ some k_ ≠ (.slice Ao52 t165.length co52 : Value).ownBlock ∧ k_ ≠ gb157 ∧ k_ ≠ gb158 ∧ k_ ≠ gb168)) (by (with_reducible repeat (first | apply Kd.V_alloc | apply Kd.V_drewN | apply Kd.V_drew)); exact Kd.V_mono (Kd.V_far (p := ⟨gb158, 2, none⟩) (Kd.V_far (p := ⟨gb158, 1, none⟩) (Kd.V_far (p := ⟨gb158, 0, none⟩) (Kd.V_far (p := ⟨gb168, 2, none⟩) (Kd.V_far (p := ⟨gb168, 1, none⟩) (Kd.V_far (p := ⟨gb168, 0, none⟩) (Kd.V_mono (Kd.V_mono HO_159002.out (fun k_ hk => (⟨hk, hk.2.2.2.2.2⟩ : _ ∧ k_ ≠ gb168))) (fun k_ hk => (⟨hk, hk.1.2.2.2.2.1⟩ : _ ∧ k_ ≠ gb158))) (fun _ hk => hk.1.2) (.int .i64 t160)) (fun _ hk => hk.1.2) (.string t161)) (fun _ hk => hk.1.2) (.slice Ao44 t162.length co44)) (fun _ hk => hk.2) (.int .i64 t160)) (fun _ hk => hk.2) (.string t161)) (fun _ hk => hk.2) (.slice Ao44 t162.length co44)) (fun _ hk => ⟨⟨hk.1.1.1, ⟨hk.1.1.2.1, ⟨hk.1.1.2.2.2.1, ⟨hk.1.1.2.2.2.2.1, hk.1.1.2.2.2.2.2⟩⟩⟩⟩, hk.1.1.2.2.1⟩)) hg hat); have n1_ := Aside0.mk (blk_grown (g := gb157) (o := .cells #[.int .i64 0, .string (⟨#[]⟩ : ByteArray), .slice none 0 0] 39 (0, 0)) (by (with_reducible repeat (first | refine blk_drewN ?_ _ | refine blk_drew ?_ | refine blk_alloc ?_ _)); refine blk_far ?_ NB157_158.out _; (with_reducible repeat (first | refine blk_drewN ?_ _ | refine blk_drew ?_ | refine blk_alloc ?_ _)); refine blk_far ?_ NB157_158.out _; (with_reducible repeat (first | refine blk_drewN ?_ _ | refine blk_drew ?_ | refine blk_alloc ?_ _)); refine blk_far ?_ NB157_158.out _; (with_reducible repeat (first | refine blk_drewN ?_ _ | refine blk_drew ?_ | refine blk_alloc ?_ _)); refine blk_far ?_ NB157_168.out _; (with_reducible repeat (first | refine blk_drewN ?_ _ | refine blk_drew ?_ | refine blk_alloc ?_ _)); refine blk_far ?_ NB157_168.out _; (with_reducible repeat (first | refine blk_drewN ?_ _ | refine blk_drew ?_ | refine blk_alloc ?_ _)); refine blk_far ?_ NB157_168.out _; (with_reducible repeat (first | refine blk_drewN ?_ _ | refine blk_drew ?_ | refine blk_alloc ?_ _)); exact BK157.out) hg (Kd.N_ne HO_5.out BK157.out (by decide))); have n2_ := Aside0.mk (blk_grown (g := gb158) (o := .cells #[.int .i64 t160, .string t161, .slice Ao44 t162.length co44] 39 (0, 0)) (by (with_reducible repeat (first | refine blk_drewN ?_ _ | refine blk_drew ?_ | refine blk_alloc ?_ _)); refine blk_put (cs := #[.int .i64 t160, .string t161, .slice Ao37 x159002_1.length co37]) ?_ 2 _ rfl; (with_reducible repeat (first | refine blk_drewN ?_ _ | refine blk_drew ?_ | refine blk_alloc ?_ _)); refine blk_put (cs := #[.int .i64 t160, .string x159001_1, .slice Ao37 x159002_1.length co37]) ?_ 1 _ rfl; (with_reducible repeat (first | refine blk_drewN ?_ _ | refine blk_drew ?_ | refine blk_alloc ?_ _)); refine blk_put (cs := #[.int .i64 x159000_1, .string x159001_1, .slice Ao37 x159002_1.length co37]) ?_ 0 _ rfl; (with_reducible repeat (first | refine blk_drewN ?_ _ | refine blk_drew ?_ | refine blk_alloc ?_ _)); refine blk_far ?_ NB158_168.out _; (with_reducible repeat (first | refine blk_drewN ?_ _ | refine blk_drew ?_ | refine blk_alloc ?_ _)); refine blk_far ?_ NB158_168.out _; (with_reducible repeat (first | refine blk_drewN ?_ _ | refine blk_drew ?_ | refine blk_alloc ?_ _)); refine blk_far ?_ NB158_168.out _; (with_reducible repeat (first | refine blk_drewN ?_ _ | refine blk_drew ?_ | refine blk_alloc ?_ _)); exact BK158.out) hg (Kd.N_ne HO_5.out BK158.out (by decide))); have n3_ := Aside0.mk (Kd.V_afterv (ok := (fun k_ => (w.heap.size ≤ k_) ∧ some k_ ≠ (.slice Ao52 t165.length co52 : Value).ownBlock ∧ k_ ≠ gb157 ∧ k_ ≠ gb158 ∧ k_ ≠ gb168)) (by (with_reducible repeat (first | apply Kd.V_alloc | apply Kd.V_drewN | apply Kd.V_drew)); exact Kd.V_mono (Kd.V_far (p := ⟨gb158, 2, none⟩) (Kd.V_far (p := ⟨gb158, 1, none⟩) (Kd.V_far (p := ⟨gb158, 0, none⟩) (Kd.V_far (p := ⟨gb168, 2, none⟩) (Kd.V_far (p := ⟨gb168, 1, none⟩) (Kd.V_far (p := ⟨gb168, 0, none⟩) (Kd.V_mono (Kd.V_mono HO164.out (fun k_ hk => (⟨hk, hk.2.2.2.2.2⟩ : _ ∧ k_ ≠ gb168))) (fun k_ hk => (⟨hk, hk.1.2.2.2.2.1⟩ : _ ∧ k_ ≠ gb158))) (fun _ hk => hk.1.2) (.int .i64 t160)) (fun _ hk => hk.1.2) (.string t161)) (fun _ hk => hk.1.2) (.slice Ao44 t162.length co44)) (fun _ hk => hk.2) (.int .i64 t160)) (fun _ hk => hk.2) (.string t161)) (fun _ hk => hk.2) (.slice Ao44 t162.length co44)) (fun _ hk => ⟨⟨hk.1.1.1, ⟨hk.1.1.2.1, ⟨hk.1.1.2.2.2.1, ⟨hk.1.1.2.2.2.2.1, hk.1.1.2.2.2.2.2⟩⟩⟩⟩, hk.1.1.2.2.1⟩)) hg hat); have n4_ := Aside0.mk (Kd.N_afterv (ok := (fun k_ => (w.heap.size ≤ k_) ∧ k_ ≠ gb157 ∧ k_ ≠ gb158 ∧ k_ ≠ gb168)) (by (with_reducible repeat (first | apply Kd.N_alloc | apply Kd.N_drewN | apply Kd.N_drew)); exact Kd.N_mono (Kd.N_far (p := ⟨gb158, 2, none⟩) (Kd.N_far (p := ⟨gb158, 1, none⟩) (Kd.N_far (p := ⟨gb158, 0, none⟩) (Kd.N_far (p := ⟨gb168, 2, none⟩) (Kd.N_far (p := ⟨gb168, 1, none⟩) (Kd.N_far (p := ⟨gb168, 0, none⟩) (Kd.N_mono (Kd.N_mono HO167.out (fun k_ hk => (⟨hk, hk.2.2.2.2⟩ : _ ∧ k_ ≠ gb168))) (fun k_ hk => (⟨hk, hk.1.2.2.2.1⟩ : _ ∧ k_ ≠ gb158))) (fun _ hk => hk.1.2) (.int .i64 t160)) (fun _ hk => hk.1.2) (.string t161)) (fun _ hk => hk.1.2) (.slice Ao44 t162.length co44)) (fun _ hk => hk.2) (.int .i64 t160)) (fun _ hk => hk.2) (.string t161)) (fun _ hk => hk.2) (.slice Ao44 t162.length co44)) (fun _ hk => ⟨⟨hk.1.1.1, ⟨hk.1.1.2.2.1, ⟨hk.1.1.2.2.2.1, hk.1.1.2.2.2.2⟩⟩⟩, hk.1.1.2.1⟩)) hg hat); have n5_ := Aside0.mk (blk_grown (g := gb168) (o := .cells #[.int .i64 t160, .string t161, .slice Ao44 t162.length co44] 39 (0, 0)) (by (with_reducible repeat (first | refine blk_drewN ?_ _ | refine blk_drew ?_ | refine blk_alloc ?_ _)); refine blk_far ?_ NB168_158.out _; (with_reducible repeat (first | refine blk_drewN ?_ _ | refine blk_drew ?_ | refine blk_alloc ?_ _)); refine blk_far ?_ NB168_158.out _; (with_reducible repeat (first | refine blk_drewN ?_ _ | refine blk_drew ?_ | refine blk_alloc ?_ _)); refine blk_far ?_ NB168_158.out _; (with_reducible repeat (first | refine blk_drewN ?_ _ | refine blk_drew ?_ | refine blk_alloc ?_ _)); refine blk_put (cs := #[.int .i64 t160, .string t161, .slice none 0 0]) ?_ 2 _ rfl; (with_reducible repeat (first | refine blk_drewN ?_ _ | refine blk_drew ?_ | refine blk_alloc ?_ _)); refine blk_put (cs := #[.int .i64 t160, .string (⟨#[]⟩ : ByteArray), .slice none 0 0]) ?_ 1 _ rfl; (with_reducible repeat (first | refine blk_drewN ?_ _ | refine blk_drew ?_ | refine blk_alloc ?_ _)); refine blk_put (cs := #[.int .i64 0, .string (⟨#[]⟩ : ByteArray), .slice none 0 0]) ?_ 0 _ rfl; (with_reducible repeat (first | refine blk_drewN ?_ _ | refine blk_drew ?_ | refine blk_alloc ?_ _)); exact BK168.out) hg (Kd.N_ne HO_5.out BK168.out (by decide))); have n6_ := Aside0.mk (hb); have n7_ := Aside0.mk (ho); clear HO_159002; clear BK157; clear BK158; clear HO164; clear HO167; clear BK168; clear HB; clear HO_5; have HO_159002 := n0_; have BK157 := n1_; have BK158 := n2_; have HO164 := n3_; have HO167 := n4_; have BK168 := n5_; have HB := n6_; have HO171 := n7_; clear n0_ n1_ n2_ n3_ n4_ n5_ n6_ n7_; clear ho hb hg hat; have p172 : 0 ≤ (x6_1 : Int) := of_decide_eq_true (by first | (with_reducible assumption) | assumption); have q172 : x6_1 < (l0.length : Int) := of_decide_eq_true (by first | (with_reducible assumption) | assumption); obtain ⟨ad172, A172_0, c172_0, e172, hx172_0, hx172_1, hl172_0, hi172_0⟩ := at_T56 HR0.out x6_1 p172 q172; (try rw [← Nbq10.out] at hx172_1); obtain rfl : ad159 = ad172 := (by injection e172); replace hx172_0 := (HB.out.cell (World.block_lt_of_cell? w _ hx172_0)).trans hx172_0; replace hx172_1 := (HB.out.cell (World.block_lt_of_cell? w _ hx172_1)).trans hx172_1; have HR172_0 := Aside0.mk hi172_0; have HC172_0 := Aside0.mk hl172_0; clear hi172_0 hl172_0; replace p172 := eq_true p172; replace q172 := eq_true q172))
              go_roundg k1
              case measure => have := HK1.out; omega
              case rel => exact ⟨(y169), (wrap64 (x6_1 + 1)), (t160), (t161), (t162), (.slice Ao44 t162.length co44), (by first | rfl | (simp; done) | (simp [*]; done)), H', ⟨by have := HK1.out; omega⟩, ⟨by (with_reducible repeat (first | apply Kd.N_alloc | apply Kd.N_drewN | apply Kd.N_drew)); exact Kd.N_mono HO171.out (fun _ hk => ⟨hk.1, ⟨hk.2.1, hk.2.2.1⟩⟩)⟩, ⟨by (with_reducible repeat (first | apply Kd.V_alloc | apply Kd.V_drewN | apply Kd.V_drew)); exact Kd.V_mono HO164.out (fun _ hk => ⟨hk.1.1, ⟨hk.2, ⟨hk.1.2.2.1, hk.1.2.2.2.1⟩⟩⟩)⟩, ⟨by (with_reducible repeat (first | refine blk_drewN ?_ _ | refine blk_drew ?_ | refine blk_alloc ?_ _)); exact BK157.out⟩, ⟨by (with_reducible repeat (first | refine blk_drewN ?_ _ | refine blk_drew ?_ | refine blk_alloc ?_ _)); exact BK158.out⟩, ⟨by repeat (first | (with_reducible first | exact HB.out | apply below_alloc | apply pw_below_drewN | apply below_drew1 | refine below_set ?_ GE157.out | refine below_set ?_ GE158.out | refine below_set ?_ GE168.out) | exact HB.out)⟩⟩
          · rw [if_neg c9] at H
            exact absurd H (by simp)
        · rw [if_neg c7] at H
          exact absurd H (by simp)
      · rw [if_neg c6] at H
        have c6b0 : decide (x6_1 < (l0.length : Int)) = false := decide_eq_false c6
        clear c6
        simp only [Option.some.injEq, Prod.mk.injEq] at H
        obtain ⟨rfl, rfl, rfl, rfl⟩ := H
        try go_wp2
        have n0_ := Aside0.mk (Kd.N_drew HO_5.out)
        have n1_ := Aside0.mk (Kd.V_drew HO_159002.out)
        have n2_ := Aside0.mk (blk_drew BK157.out)
        have n3_ := Aside0.mk (blk_drew BK158.out)
        have n4_ := Aside0.mk (below_drew1 HB.out)
        clear HO_5
        clear HO_159002
        clear BK157
        clear BK158
        clear HB
        have HO_5 := n0_
        have HO_159002 := n1_
        have BK157 := n2_
        have BK158 := n3_
        have HB := n4_
        clear n0_ n1_ n2_ n3_ n4_
        obtain ⟨Ao56, co56, eo56⟩ := Kd.V_slice HO_159002.out
        (first | subst eo56 | (injection eo56 with f1_ f2_ f3_; have f4_ := f1_.symm; have f5_ := f3_.symm; clear f1_ f2_ f3_; subst f4_; subst f5_))
        refine start_ (n := 4) (S := fun w' => w'.cell? ⟨gb158, 0, none⟩ = some (.int .i64 x159000_1) ∧ w'.cell? ⟨gb158, 1, none⟩ = some (.string x159001_1) ∧ w'.cell? ⟨gb158, 2, none⟩ = some (.slice Ao56 x159002_1.length co56)) (ds := []) #[false, false, false, false] (by kernel_rfl) rfl rfl ⟨(blk_cell BK158.out 0).trans rfl, (blk_cell BK158.out 1).trans rfl, (blk_cell BK158.out 2).trans rfl⟩ (fun hHeld => ?_)
        generalize wr.drew = w53 at HO_5 HO_159002 BK157 BK158 HB hHeld ⊢
        refine pure_ (i := 0) (N := some 44) (v := ?_) (a' := ?_) #[true, false, false, false] rfl rfl (by kernel_rfl) (fun _ _ _ h => h) (Or.inl ⟨by rfl, ?_⟩) ?_ ?_
        rotate_left
        · intro w'
          go_simp
          with_reducible rfl
        rotate_left
        · simp only [Act.put, List.setIfInBounds_toArray, List.set_cons_zero, List.set_cons_succ, i64_w, i32_w]
          rfl
        refine pure_ (i := 2) (N := some 2) (v := ?_) (a' := ?_) #[true, false, true, false] rfl rfl (by kernel_rfl) (fun _ _ _ h => h) (Or.inl ⟨by rfl, ?_⟩) ?_ ?_
        rotate_left
        · intro w'
          go_simp
          with_reducible rfl
        rotate_left
        · simp only [Act.put, List.setIfInBounds_toArray, List.set_cons_zero, List.set_cons_succ, i64_w, i32_w]
          rfl
        refine take_ (i := 1) (N := some 45) (v := ?_) (a' := ?_) #[true, true, true, false] rfl rfl (by kernel_rfl) (fun _ _ _ h => h) (Or.inl ⟨by rfl, ?_⟩) hHeld ?_ ?_
        rotate_left
        · rintro w' ⟨s0, s1, s2⟩
          go_simp
          with_reducible rfl
        rotate_left
        · simp only [Act.put, List.setIfInBounds_toArray, List.set_cons_zero, List.set_cons_succ, i64_w, i32_w]
          rfl
        refine one_ (i := 3) (N := none) #[true, true, true, true] rfl rfl (by kernel_rfl) (by decide) (fun K hK => ?_)
        have hs54 : w53.cell? ⟨gb157, 0, none⟩ = some (.int .i64 0) := (blk_cell BK157.out 0).trans rfl
        have hfs54 := blk_frozen BK157.out 0
        have hns54_1 := NB158_157.out
        have hms54_1 := NB157_158.out
        have hs55 : w53.cell? ⟨gb157, 1, none⟩ = some (.string (⟨#[]⟩ : ByteArray)) := (blk_cell BK157.out 1).trans rfl
        have hfs55 := blk_frozen BK157.out 1
        have hns55_1 := NB158_157.out
        have hms55_1 := NB157_158.out
        have hs57 : w53.cell? ⟨gb157, 2, none⟩ = some (.slice none 0 0) := (blk_cell BK157.out 2).trans rfl
        have hfs57 := blk_frozen BK157.out 2
        have hns57_1 := NB158_157.out
        have hms57_1 := NB157_158.out
        refine skip_ (w1 := ?_) (by rfl) rfl ?_ ?_
        rotate_left
        · go_simp
          rfl
        refine hK.out _ _ ⟨((cell_far (p := ⟨gb157, _, none⟩) NB158_157.out _).trans (((cell_far (p := ⟨gb157, _, none⟩) NB158_157.out _).trans (((cell_far (p := ⟨gb157, _, none⟩) NB158_157.out _).trans (hHeld.1)))))), ((cell_far (p := ⟨gb157, _, none⟩) NB158_157.out _).trans (((cell_far (p := ⟨gb157, _, none⟩) NB158_157.out _).trans (((cell_far (p := ⟨gb157, _, none⟩) NB158_157.out _).trans (hHeld.2.1)))))), ((cell_far (p := ⟨gb157, _, none⟩) NB158_157.out _).trans (((cell_far (p := ⟨gb157, _, none⟩) NB158_157.out _).trans (((cell_far (p := ⟨gb157, _, none⟩) NB158_157.out _).trans (hHeld.2.2))))))⟩ (fun hHeld => ?_)
        clear hK K
        refine done_ (by kernel_rfl) ?_
        try go_wp2
        refine bodyPost_ret (results_tc rfl _ _ gb157 39 #[.int .i64 x159000_1, .string x159001_1, .slice Ao56 x159002_1.length co56] (0, 0) _ rfl (by (with_reducible repeat (first | refine blk_drewN ?_ _ | refine blk_drew ?_ | refine blk_alloc ?_ _)); refine blk_put (cs := #[.int .i64 x159000_1, .string x159001_1, .slice none 0 0]) ?_ 2 _ rfl; (with_reducible repeat (first | refine blk_drewN ?_ _ | refine blk_drew ?_ | refine blk_alloc ?_ _)); refine blk_put (cs := #[.int .i64 x159000_1, .string (⟨#[]⟩ : ByteArray), .slice none 0 0]) ?_ 1 _ rfl; (with_reducible repeat (first | refine blk_drewN ?_ _ | refine blk_drew ?_ | refine blk_alloc ?_ _)); refine blk_put (cs := #[.int .i64 0, .string (⟨#[]⟩ : ByteArray), .slice none 0 0]) ?_ 0 _ rfl; (with_reducible repeat (first | refine blk_drewN ?_ _ | refine blk_drew ?_ | refine blk_alloc ?_ _)); exact BK157.out) Try.underlying39 rfl (by kernel_rfl)) rfl ?_
        exact ⟨_, _, by first | rfl | (simp [errW_none, errW_some] <;> rfl) | (simp [*, errW_none, errW_some] <;> rfl), by (with_reducible repeat (first | apply Kd.N_alloc | apply Kd.N_drewN | apply Kd.N_drew)); exact Kd.N_mono (Kd.N_far (p := ⟨gb157, 2, none⟩) (Kd.N_far (p := ⟨gb157, 1, none⟩) (Kd.N_far (p := ⟨gb157, 0, none⟩) (Kd.N_mono HO_5.out (fun k_ hk => (⟨hk, hk.2.1⟩ : _ ∧ k_ ≠ gb157))) (fun _ hk => hk.2) (.int .i64 x159000_1)) (fun _ hk => hk.2) (.string x159001_1)) (fun _ hk => hk.2) (.slice Ao56 x159002_1.length co56)) (fun _ hk => hk.1.1), by (with_reducible repeat (first | apply Kd.V_alloc | apply Kd.V_drewN | apply Kd.V_drew)); exact Kd.V_mono (Kd.V_far (p := ⟨gb157, 2, none⟩) (Kd.V_far (p := ⟨gb157, 1, none⟩) (Kd.V_far (p := ⟨gb157, 0, none⟩) (Kd.V_mono HO_159002.out (fun k_ hk => (⟨hk, hk.2.2.1⟩ : _ ∧ k_ ≠ gb157))) (fun _ hk => hk.2) (.int .i64 x159000_1)) (fun _ hk => hk.2) (.string x159001_1)) (fun _ hk => hk.2) (.slice Ao56 x159002_1.length co56)) (fun _ hk => ⟨hk.1.1, hk.1.2.1⟩), by repeat (first | (with_reducible first | exact HB.out | apply below_alloc | apply pw_below_drewN | apply below_drew1 | refine below_set ?_ GE157.out | refine below_set ?_ GE158.out) | exact HB.out)⟩

end Go.Proofs.Ytefdokolbdnjnaa.PCutAll
