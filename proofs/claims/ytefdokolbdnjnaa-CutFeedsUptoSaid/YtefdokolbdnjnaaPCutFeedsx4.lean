-- written by a program of this session (pp.py), out of the kit's print and this session's contracts
import Derived.Test.YtefdokolbdnjnaaPCutFeedsx0
import Derived.Test.YtefdokolbdnjnaaPCutFeedsx2
import Derived.Test.YtefdokolbdnjnaaPCutFeedsx3
import Derived.Test.YtefdokolbdnjnaaVCutFeedsPe
namespace Go.Proofs.Ytefdokolbdnjnaa.PCutFeeds
open Go.RowKit Go.Proofs.YtefdokolbdnjnaaW.PrintWords Go.Proofs.YtefdokolbdnjnaaW.PrintLast Go.Proofs.YtefdokolbdnjnaaW.PrintMore
attribute [local go_sem] max2_int min2_int max_two min_two max_three min_three max_four min_four   -- for this text's walks alone
set_option linter.unusedVariables false
set_option linter.unusedSimpArgs false

/-! ### selvedgeref15_Feed: function 39 -/
def selvedgeref15_Feed.l0 : Nat → List ByteArray → List (S40) → Int → Int → ByteArray → List ByteArray → Option (Int × ByteArray × List ByteArray × (List (S40)))
 | 0, _, _, _, _, _, _ => none
 | k + 1, x1, x6, x7, x170000, x170001, x170002 => if x7 < (x1.length : Int) then (if 0 ≤ x7 then ((selvedgeref15_Fits.f k x170002 (rdOf ByteArray.empty x1 x7)).bind fun t172 => (if t172 = true then ((some (([] : List ByteArray) : List ByteArray)).bind fun y173 => (if y173.length + x170002.length < 8796093022208 then ((some (y173 ++ x170002 : List ByteArray)).bind fun y176 => ((some (([rdOf ByteArray.empty x1 x7] : List ByteArray) : List ByteArray)).bind fun y180 => (if y176.length + y180.length < 8796093022208 then (selvedgeref15_Feed.l0 k x1 x6 (wrap64 (x7 + 1)) x170000 x170001 (y176 ++ y180)) else (none)))) else (none))) else ((selvedgeref15_Flush.f x170000 x170001 x170002).bind fun bt186 => (if x6.length + bt186.2.2.2.length < 2932031007402 then ((some (([] : List ByteArray) : List ByteArray)).bind fun y198 => (if y198.length + bt186.2.2.1.length < 8796093022208 then ((some (y198 ++ bt186.2.2.1 : List ByteArray)).bind fun y201 => ((some (([rdOf ByteArray.empty x1 x7] : List ByteArray) : List ByteArray)).bind fun y205 => (if y201.length + y205.length < 8796093022208 then (selvedgeref15_Feed.l0 k x1 (x6 ++ bt186.2.2.2) (wrap64 (x7 + 1)) bt186.1 bt186.2.1 (y201 ++ y205)) else (none)))) else (none))) else (none))))) else (none)) else (some (x170000, x170001, x170002, x6))
def selvedgeref15_Feed.f (k : Nat) (a0_0 : Int) (a0_1 : ByteArray) (l0_2 : List ByteArray) (l1 : List ByteArray) : Option (Int × ByteArray × List ByteArray × (List (S40))) := selvedgeref15_Feed.l0 k l1 ([] : List (S40)) 0 a0_0 a0_1 l0_2
theorem selvedgeref15_Feed.mono_l : ∀ k, (∀ y0 y1 y2 y3 y4 y5, LeO (selvedgeref15_Feed.l0 k y0 y1 y2 y3 y4 y5) (selvedgeref15_Feed.l0 (k + 1) y0 y1 y2 y3 y4 y5))
 | 0 => fun _ _ _ _ _ _ r h => by simp [selvedgeref15_Feed.l0] at h
 | k + 1 => by
  have ih0 := selvedgeref15_Feed.mono_l k
  ·
   intro y0 y1 y2 y3 y4 y5
   unfold selvedgeref15_Feed.l0
   repeat' first
   | (with_reducible exact ih0 _ _ _ _ _ _)
   | (with_reducible exact selvedgeref15_Fits.mono _ _ _)
   | (with_reducible exact LeO.refl _)
   | (with_reducible exact LeO.none _)
   | (with_reducible refine LeO.ite ?_ ?_)
   | (with_reducible refine LeO.bind ?_ (fun _ => ?_))
   | exact ih0 _ _ _ _ _ _
   | exact selvedgeref15_Fits.mono _ _ _
   | exact LeO.none _
   | refine LeO.ite ?_ ?_
   | refine LeO.bind ?_ (fun _ => ?_)
theorem selvedgeref15_Feed.mono : ∀ a0 a1 a2 a3 k, LeO (selvedgeref15_Feed.f k a0 a1 a2 a3) (selvedgeref15_Feed.f (k + 1) a0 a1 a2 a3) := by
 intro a0 a1 a2 a3 k
 have ih0 := selvedgeref15_Feed.mono_l k
 unfold selvedgeref15_Feed.f
 repeat' first
   | (with_reducible exact ih0 _ _ _ _ _ _)
   | (with_reducible exact selvedgeref15_Fits.mono _ _ _)
   | (with_reducible exact LeO.refl _)
   | (with_reducible exact LeO.none _)
   | (with_reducible refine LeO.ite ?_ ?_)
   | (with_reducible refine LeO.bind ?_ (fun _ => ?_))
   | exact ih0 _ _ _ _ _ _
   | exact selvedgeref15_Fits.mono _ _ _
   | exact LeO.none _
   | refine LeO.ite ?_ ?_
   | refine LeO.bind ?_ (fun _ => ?_)
def selvedgeref15_Feed.T5 : Bool × List (List Nat × List Nat) := (true, [([], []), ([0], [0]), ([], []), ([], []), ([2, 3], [2, 3]), ([4], [4]), ([1, 5], [1, 5]), ([6, 6, 0, 1, 2, 3, 4, 5, 6], [6])])
def selvedgeref15_Feed.B5 : List Nat := [0, 1, 0, 0, 12, 28, 63, 127]
theorem selvedgeref15_Feed.tab5 : rtab .any (opsOf Try.f39 5) = selvedgeref15_Feed.T5 := by kernel_rfl
theorem selvedgeref15_Feed.bits5 : waitsOk selvedgeref15_Feed.T5.2 selvedgeref15_Feed.B5 = true := by kernel_rfl
def selvedgeref15_Feed.T10 : Bool × List (List Nat × List Nat) := (true, [([], []), ([], []), ([1], [1]), ([0, 2], [0, 2]), ([], []), ([], []), ([4, 5], [4, 5]), ([6], [6]), ([7], [7]), ([3, 8, 3], [3, 8]), ([0, 1, 2, 3, 4, 5, 6, 7, 8, 9], []), ([10, 9, 9, 0, 1, 2, 3, 4, 5, 6, 7, 8, 9], [9, 10])])
def selvedgeref15_Feed.B10 : List Nat := [0, 0, 2, 7, 0, 0, 48, 112, 240, 511, 1023, 2047]
theorem selvedgeref15_Feed.tab10 : rtab .any (opsOf Try.f39 10) = selvedgeref15_Feed.T10 := by kernel_rfl
theorem selvedgeref15_Feed.bits10 : waitsOk selvedgeref15_Feed.T10.2 selvedgeref15_Feed.B10 = true := by kernel_rfl
set_option maxHeartbeats 8000000 in
set_option maxRecDepth 100000 in
theorem selvedgeref15_Feed.calls (k : Nat) (a0_0 : Int) (a0_1 : ByteArray) (P0_2_ : Nat → Prop) (A0_2 : Option Addr) (c0_2 : Nat) (l0_2 : List ByteArray) (A1 : Option Addr) (c1 : Nat) (l1 : List ByteArray) (r1 : Int) (r2 : ByteArray) (r3 : List ByteArray) (r4 : List (S40)) (w : World) (hs0_2 : Kd.V Kd.string 9 w w.heap.size (fun k_ => P0_2_ k_) (.slice A0_2 l0_2.length c0_2) l0_2) (hr1 : Kd.C Kd.string w A1 l1.length l1) (hc1 : l1.length ≤ c1) (h : selvedgeref15_Feed.f k a0_0 a0_1 l0_2 l1 = some (r1, r2, r3, r4)) :
  Calls Try.prog 39 #[.agg #[.int .i64 a0_0, .string a0_1, .slice A0_2 l0_2.length c0_2], .slice A1 l1.length c1] w fun e w' => ∃ v2_ v3_ : Value, e = .returned (.tuple #[.agg #[.int .i64 r1, .string r2, v2_], v3_]) ∧ Kd.V Kd.string 9 w' w.heap.size (fun k_ => (P0_2_ k_ ∨ w.heap.size ≤ k_) ∧ some k_ ≠ (v3_ : Value).ownBlock) v2_ r3 ∧ Kd.N k40 40 w' w.heap.size (fun k_ => (P0_2_ k_ ∨ w.heap.size ≤ k_)) v3_ r4 ∧ Below w.heap.size w w' := by
 have hu39 := Try.underlying39
 have HO0_2 := Aside0.mk (show Kd.V Kd.string 9 w w.heap.size (fun k_ => (P0_2_ k_ ∨ w.heap.size ≤ k_)) (.slice A0_2 l0_2.length c0_2) l0_2 from Kd.V_mono hs0_2 (fun k_ hk => .inl hk))
 have HR1 := Aside0.mk hr1
 have HC1 := Aside0.mk hc1
 clear hr1 hc1
 have HB := Aside0.mk (Below.refl w.heap.size w)
 have H : (selvedgeref15_Feed.l0 k l1 ([] : List (S40)) 0 a0_0 a0_1 l0_2) = some (r1, r2, r3, r4) := h
 clear h
 have H' := Aside0.mk H
 clear H
 go_enter Try.func39, Try.ntmps39
 go_wp2_with (first | ((with_reducible refine gate_dst (N := 2) rfl ?_); refine box_event ?hg (N := 2) ?hd (cs := #[.int .i64 a0_0, .string a0_1, .slice A0_2 l0_2.length c0_2]) (t := 39) ?hr ?_; (case hd => rfl); (case hg => rfl); (case hr => first | (go_simp; done) | (go_simp; rfl)); intro gb169 hg w3 hbox hb; have n0_ := Aside0.mk (Kd.V_below (Kd.V_elderB (Kd.pV HO0_2.out) gb169 (Nat.le_of_eq hg.symm)) hb); have n1_ := Aside0.mk (below_step (by repeat (first | (with_reducible first | exact HB.out | apply below_alloc | apply pw_below_drewN | apply below_drew1) | exact HB.out)) hb); have n2_ := Aside0.mk (hbox); have n3_ := Aside0.mk ((by rw [hg]; exact (below_size (by repeat (first | (with_reducible first | exact HB.out | apply below_alloc | apply pw_below_drewN | apply below_drew1) | exact HB.out))) : w.heap.size ≤ gb169)); have n4_ := Aside0.mk ((by rw [hg]; exact (below_size (by repeat (first | (with_reducible first | exact HB.out | apply below_alloc | apply pw_below_drewN | apply below_drew1) | exact HB.out))) : w.heap.size ≤ gb169)); clear HO0_2; clear HB; have HO0_2 := n0_; have HB := n1_; have BK169 := n2_; have GW169 := n3_; have GE169 := n4_; clear n0_ n1_ n2_ n3_ n4_; clear hb hbox hg) | ((with_reducible refine gate_dst (N := 4) rfl ?_); refine box_event ?hg (N := 4) ?hd (cs := #[.int .i64 0, .string (⟨#[]⟩ : ByteArray), .slice none 0 0]) (t := 39) ?hr ?_; (case hd => rfl); (case hg => rfl); (case hr => first | (go_simp; done) | (go_simp; rfl)); intro gb170 hg w4 hbox hb; have n0_ := Aside0.mk (Kd.V_below (Kd.V_elderB (Kd.pV HO0_2.out) gb170 (Nat.le_of_eq hg.symm)) hb); have n1_ := Aside0.mk (blk_below (g := gb169) (o := .cells #[.int .i64 a0_0, .string a0_1, .slice A0_2 l0_2.length c0_2] 39 (0, 0)) (pB BK169.out) hb); have n2_ := Aside0.mk (below_step (by repeat (first | (with_reducible first | exact HB.out | apply below_alloc | apply pw_below_drewN | apply below_drew1 | refine below_set ?_ GE169.out) | exact HB.out)) hb); have n3_ := Aside0.mk (hbox); have n4_ := Aside0.mk ((by rw [hg]; exact (below_size (by repeat (first | (with_reducible first | exact HB.out | apply below_alloc | apply pw_below_drewN | apply below_drew1 | refine below_set ?_ GE169.out) | exact HB.out))) : w.heap.size ≤ gb170)); have n5_ := Aside0.mk ((by rw [hg]; exact (below_size (by repeat (first | (with_reducible first | exact HB.out | apply below_alloc | apply pw_below_drewN | apply below_drew1 | refine below_set ?_ GE169.out) | exact HB.out))) : w.heap.size ≤ gb170)); have n6_ := Aside0.mk ((by rw [hg]; exact Nat.ne_of_lt (blk_lt (g := gb169) (o := .cells #[.int .i64 a0_0, .string a0_1, .slice A0_2 l0_2.length c0_2] 39 (0, 0)) (pB BK169.out)) : gb169 ≠ gb170)); have n7_ := Aside0.mk ((by rw [hg]; exact Nat.ne_of_gt (blk_lt (g := gb169) (o := .cells #[.int .i64 a0_0, .string a0_1, .slice A0_2 l0_2.length c0_2] 39 (0, 0)) (pB BK169.out)) : gb170 ≠ gb169)); clear HO0_2; clear BK169; clear HB; have HO0_2 := n0_; have BK169 := n1_; have HB := n2_; have BK170 := n3_; have GW170 := n4_; have GE170 := n5_; have NB169_170 := n6_; have NB170_169 := n7_; clear n0_ n1_ n2_ n3_ n4_ n5_ n6_ n7_; clear hb hbox hg))
 go_loopg [6, 7] k (fun kq v6 v7 w' => ∃ (x6_1 : List (S40)) (x7_1 : Int) (x170000_1 : Int) (x170001_1 : ByteArray) (x170002_1 : List ByteArray) (u170002 : Value), v7 = .int .i64 x7_1 ∧ Aside0 (selvedgeref15_Feed.l0 kq l1 x6_1 x7_1 x170000_1 x170001_1 x170002_1 = some (r1, r2, r3, r4)) ∧ Aside0 (kq ≤ k) ∧ Aside0 (Kd.N k40 40 w' w.heap.size (fun k_ => (P0_2_ k_ ∨ w.heap.size ≤ k_) ∧ k_ ≠ gb169 ∧ k_ ≠ gb170) v6 x6_1) ∧ Aside0 (Kd.V Kd.string 9 w' w.heap.size (fun k_ => (P0_2_ k_ ∨ w.heap.size ≤ k_) ∧ some k_ ≠ (v6 : Value).ownBlock ∧ k_ ≠ gb169 ∧ k_ ≠ gb170) u170002 x170002_1) ∧ Aside0 (w'.heap[gb169]? = some (.cells #[.int .i64 x170000_1, .string x170001_1, u170002] 39 (0, 0))) ∧ Aside0 (w'.heap[gb170]? = some (.cells #[.int .i64 0, .string (⟨#[]⟩ : ByteArray), (.slice none 0 0)] 39 (0, 0))) ∧ Aside0 (Below w.heap.size w w'))
 case atStart => exact ⟨(([] : List (S40))), (0), (a0_0), (a0_1), (l0_2), (.slice A0_2 l0_2.length c0_2), (by first | rfl | (simp; done) | (simp [*]; done)), H', ⟨Nat.le_refl _⟩, ⟨by first | exact Kd.S_nil _ _ _ _ _ | exact Kd.N_nil _ _ _ _ _ | exact Kd.V_nil _ _ _ _ _ | exact Kd.Q_nil _ _ _ _ _ | exact Kd.R_nil _ _ _ _ _⟩, ⟨by (with_reducible repeat (first | apply Kd.V_alloc | apply Kd.V_drewN | apply Kd.V_drew)); exact Kd.V_mono HO0_2.out (fun _ hk => ⟨hk.1.1, ⟨(by simp [Value.ownBlock]), ⟨hk.1.2, hk.2⟩⟩⟩)⟩, ⟨by (with_reducible repeat (first | refine blk_drewN ?_ _ | refine blk_drew ?_ | refine blk_alloc ?_ _)); exact BK169.out⟩, ⟨by (with_reducible repeat (first | refine blk_drewN ?_ _ | refine blk_drew ?_ | refine blk_alloc ?_ _)); exact BK170.out⟩, ⟨by repeat (first | (with_reducible first | exact HB.out | apply below_alloc | apply pw_below_drewN | apply below_drew1 | refine below_set ?_ GE169.out | refine below_set ?_ GE170.out) | exact HB.out)⟩⟩
 case round =>
  clear H'
  try clear c1
  try clear p2
  try clear c3
  obtain ⟨x6_1, x7_1, x170000_1, x170001_1, x170002_1, u170002, rfl, HA, HK1, HO_6, HO_170002, BK169, BK170, HB⟩ := hrel
  cases gk with
  | zero => exact absurd HA.out (by simp [selvedgeref15_Feed.l0])
  | succ k1 =>
   have H := HA.out
   clear HA
   simp only [selvedgeref15_Feed.l0] at H
   by_cases c5 : x7_1 < (l1.length : Int)
   ·
    rw [if_pos c5] at H
    have c5b0 : decide (x7_1 < (l1.length : Int)) = true := decide_eq_true c5
    clear c5
    by_cases c6 : 0 ≤ x7_1
    ·
     rw [if_pos c6] at H
     have c6b0 : decide (0 ≤ x7_1) = true := decide_eq_true c6
     clear c6
     replace H := Option.bind_eq_some_iff.mp H
     obtain ⟨t172, A70, H⟩ := H
     replace H : (if t172 = true then ((some (([] : List ByteArray) : List ByteArray)).bind fun y173 => (if y173.length + x170002_1.length < 8796093022208 then ((some (y173 ++ x170002_1 : List ByteArray)).bind fun y176 => ((some (([rdOf ByteArray.empty l1 x7_1] : List ByteArray) : List ByteArray)).bind fun y180 => (if y176.length + y180.length < 8796093022208 then (selvedgeref15_Feed.l0 k1 l1 x6_1 (wrap64 (x7_1 + 1)) x170000_1 x170001_1 (y176 ++ y180)) else (none)))) else (none))) else ((selvedgeref15_Flush.f x170000_1 x170001_1 x170002_1).bind fun bt186 => (if x6_1.length + bt186.2.2.2.length < 2932031007402 then ((some (([] : List ByteArray) : List ByteArray)).bind fun y198 => (if y198.length + bt186.2.2.1.length < 8796093022208 then ((some (y198 ++ bt186.2.2.1 : List ByteArray)).bind fun y201 => ((some (([rdOf ByteArray.empty l1 x7_1] : List ByteArray) : List ByteArray)).bind fun y205 => (if y201.length + y205.length < 8796093022208 then (selvedgeref15_Feed.l0 k1 l1 (x6_1 ++ bt186.2.2.2) (wrap64 (x7_1 + 1)) bt186.1 bt186.2.1 (y201 ++ y205)) else (none)))) else (none))) else (none)))) = some (r1, r2, r3, r4) := H
     have A7 := Aside0.mk A70
     clear A70
     by_cases c8 : t172 = true
     ·
      subst c8
      have H1 : ((some (([] : List ByteArray) : List ByteArray)).bind fun y173 => (if y173.length + x170002_1.length < 8796093022208 then ((some (y173 ++ x170002_1 : List ByteArray)).bind fun y176 => ((some (([rdOf ByteArray.empty l1 x7_1] : List ByteArray) : List ByteArray)).bind fun y180 => (if y176.length + y180.length < 8796093022208 then (selvedgeref15_Feed.l0 k1 l1 x6_1 (wrap64 (x7_1 + 1)) x170000_1 x170001_1 (y176 ++ y180)) else (none)))) else (none))) = some (r1, r2, r3, r4) := by rw [if_pos rfl] at H; exact H
      clear H
      have H := H1
      clear H1
      obtain ⟨y173, hy173⟩ : ∃ y_ : List ByteArray, y_ = (([] : List ByteArray)) := ⟨_, rfl⟩
      replace H : (if y173.length + x170002_1.length < 8796093022208 then ((some (y173 ++ x170002_1 : List ByteArray)).bind fun y176 => ((some (([rdOf ByteArray.empty l1 x7_1] : List ByteArray) : List ByteArray)).bind fun y180 => (if y176.length + y180.length < 8796093022208 then (selvedgeref15_Feed.l0 k1 l1 x6_1 (wrap64 (x7_1 + 1)) x170000_1 x170001_1 (y176 ++ y180)) else (none)))) else (none)) = some (r1, r2, r3, r4) := by first | (rw [hy173]; with_reducible exact H) | (have H2_ := (Option.bind_some _ _).symm.trans H; rw [hy173]; with_reducible exact H2_) | (have H2_ := (Option.bind_some _ _).symm.trans H; with_reducible exact H2_) | with_reducible exact H | (rw [hy173]; exact H) | exact H
      have Ny173 := Aside0.mk hy173
      clear hy173
      by_cases c9 : y173.length + x170002_1.length < 8796093022208
      ·
       rw [if_pos c9] at H
       have LMc9 := Aside0.mk c9
       clear c9
       obtain ⟨y176, hy176⟩ : ∃ y_ : List ByteArray, y_ = (y173 ++ x170002_1) := ⟨_, rfl⟩
       replace H : ((some (([rdOf ByteArray.empty l1 x7_1] : List ByteArray) : List ByteArray)).bind fun y180 => (if y176.length + y180.length < 8796093022208 then (selvedgeref15_Feed.l0 k1 l1 x6_1 (wrap64 (x7_1 + 1)) x170000_1 x170001_1 (y176 ++ y180)) else (none))) = some (r1, r2, r3, r4) := by first | (rw [hy176]; with_reducible exact H) | (have H2_ := (Option.bind_some _ _).symm.trans H; rw [hy176]; with_reducible exact H2_) | (have H2_ := (Option.bind_some _ _).symm.trans H; with_reducible exact H2_) | with_reducible exact H | (rw [hy176]; exact H) | exact H
       have Ny176 := Aside0.mk hy176
       clear hy176
       obtain ⟨y180, hy180⟩ : ∃ y_ : List ByteArray, y_ = (([rdOf ByteArray.empty l1 x7_1] : List ByteArray)) := ⟨_, rfl⟩
       replace H : (if y176.length + y180.length < 8796093022208 then (selvedgeref15_Feed.l0 k1 l1 x6_1 (wrap64 (x7_1 + 1)) x170000_1 x170001_1 (y176 ++ y180)) else (none)) = some (r1, r2, r3, r4) := by first | (rw [hy180]; with_reducible exact H) | (have H2_ := (Option.bind_some _ _).symm.trans H; rw [hy180]; with_reducible exact H2_) | (have H2_ := (Option.bind_some _ _).symm.trans H; with_reducible exact H2_) | with_reducible exact H | (rw [hy180]; exact H) | exact H
       have Ny180 := Aside0.mk hy180
       clear hy180
       by_cases c10 : y176.length + y180.length < 8796093022208
       ·
        rw [if_pos c10] at H
        have LMc10 := Aside0.mk c10
        clear c10
        obtain ⟨y183, hy183⟩ : ∃ y_ : List ByteArray, y_ = (y176 ++ y180) := ⟨_, rfl⟩
        replace H : (selvedgeref15_Feed.l0 k1 l1 x6_1 (wrap64 (x7_1 + 1)) x170000_1 x170001_1 y183) = some (r1, r2, r3, r4) := by first | (rw [hy183]; with_reducible exact H) | (have H2_ := (Option.bind_some _ _).symm.trans H; rw [hy183]; with_reducible exact H2_) | (have H2_ := (Option.bind_some _ _).symm.trans H; with_reducible exact H2_) | with_reducible exact H | (rw [hy183]; exact H) | exact H
        have Ny183 := Aside0.mk hy183
        clear hy183
        have H' := Aside0.mk H
        clear H
        try go_wp2
        have n0_ := Aside0.mk (Kd.N_drew HO_6.out)
        have n1_ := Aside0.mk (Kd.V_drew HO_170002.out)
        have n2_ := Aside0.mk (blk_drew BK169.out)
        have n3_ := Aside0.mk (blk_drew BK170.out)
        have n4_ := Aside0.mk (below_drew1 HB.out)
        clear HO_6
        clear HO_170002
        clear BK169
        clear BK170
        clear HB
        have HO_6 := n0_
        have HO_170002 := n1_
        have BK169 := n2_
        have BK170 := n3_
        have HB := n4_
        clear n0_ n1_ n2_ n3_ n4_
        have p171 : 0 ≤ (x7_1 : Int) := of_decide_eq_true (by first | (with_reducible assumption) | assumption)
        have q171 : x7_1 < (l1.length : Int) := of_decide_eq_true (by first | (with_reducible assumption) | assumption)
        obtain ⟨ad171, e171, hx171_0⟩ := Kd.at_string HR1.out x7_1 p171 q171
        have hw171_0 := hx171_0
        cases e171
        replace hx171_0 := (HB.out.cell (World.block_lt_of_cell? w _ hx171_0)).trans hx171_0
        replace p171 := eq_true p171
        replace q171 := eq_true q171
        obtain ⟨Ao12, co12, eo12⟩ := Kd.V_slice HO_170002.out
        (first | subst eo12 | (injection eo12 with f1_ f2_ f3_; have f4_ := f1_.symm; have f5_ := f3_.symm; clear f1_ f2_ f3_; subst f4_; subst f5_))
        refine start_ (n := 8) (S := fun w' => w'.cell? ⟨gb169, 0, none⟩ = some (.int .i64 x170000_1) ∧ w'.cell? ⟨gb169, 1, none⟩ = some (.string x170001_1) ∧ w'.cell? ⟨gb169, 2, none⟩ = some (.slice Ao12 x170002_1.length co12) ∧ w'.cell? (ad171.add (x7_1).toNat) = some (.string (rdOf ByteArray.empty l1 x7_1))) (ds := []) #[false, false, false, false, false, false, false, false] (by kernel_rfl) rfl rfl ⟨(blk_cell BK169.out 0).trans rfl, (blk_cell BK169.out 1).trans rfl, (blk_cell BK169.out 2).trans rfl, ((HB.out.cell (World.block_lt_of_cell? w _ hw171_0)).trans (by first | exact hw171_0))⟩ (fun hHeld => ?_); refine with_tabW selvedgeref15_Feed.tab5 selvedgeref15_Feed.bits5 (fun HT_ HW_ => ?_)
        generalize wr.drew = w11 at HO_6 HO_170002 BK169 BK170 HB hx171_0 hHeld ⊢
        refine pure_ (i := 0) (N := some 17) (v := ?_) (a' := ?_) #[true, false, false, false, false, false, false, false] rfl rfl (any_of HT_.out (by kernel_rfl)) (fun _ _ _ h => h) (Or.inl ⟨by rfl, ?_⟩) ?_ ?_
        rotate_left
        ·
         intro w'
         go_simp
         with_reducible rfl
        rotate_left
        ·
         simp only [Act.put, List.setIfInBounds_toArray, List.set_cons_zero, List.set_cons_succ, i64_w, i32_w]
         rfl
        refine pure_ (i := 2) (N := some 19) (v := ?_) (a' := ?_) #[true, false, true, false, false, false, false, false] rfl rfl (any_of HT_.out (by kernel_rfl)) (fun _ _ _ h => h) (Or.inl ⟨by rfl, ?_⟩) ?_ ?_
        rotate_left
        ·
         intro w'
         go_simp
         with_reducible rfl
        rotate_left
        ·
         simp only [Act.put, List.setIfInBounds_toArray, List.set_cons_zero, List.set_cons_succ, i64_w, i32_w]
         rfl
        refine pure_ (i := 3) (N := some 20) (v := ?_) (a' := ?_) #[true, false, true, true, false, false, false, false] rfl rfl (any_of HT_.out (by kernel_rfl)) (fun _ _ _ h => h) (Or.inl ⟨by rfl, ?_⟩) ?_ ?_
        rotate_left
        ·
         intro w'
         go_simp
         with_reducible rfl
        rotate_left
        ·
         simp only [Act.put, List.setIfInBounds_toArray, List.set_cons_zero, List.set_cons_succ, i64_w, i32_w]
         rfl
        refine pure_ (i := 4) (N := some 21) (v := ?_) (a' := ?_) #[true, false, true, true, true, false, false, false] rfl rfl (any_of HT_.out (by kernel_rfl)) (fun _ _ _ h => h) (Or.inl ⟨by rfl, ?_⟩) ?_ ?_
        rotate_left
        ·
         intro w'
         go_simp
         with_reducible rfl
        rotate_left
        ·
         simp only [Act.put, List.setIfInBounds_toArray, List.set_cons_zero, List.set_cons_succ, i64_w, i32_w]
         rfl
        refine take_ (i := 1) (N := some 18) (v := ?_) (a' := ?_) #[true, true, true, true, true, false, false, false] rfl rfl (take_ofW HT_.out HW_.out (by kernel_rfl)) (fun _ _ _ h => h) (Or.inl ⟨by rfl, ?_⟩) hHeld ?_ ?_
        rotate_left
        ·
         rintro w' ⟨s0, s1, s2, s3⟩
         go_simp
         with_reducible rfl
        rotate_left
        ·
         simp only [Act.put, List.setIfInBounds_toArray, List.set_cons_zero, List.set_cons_succ, i64_w, i32_w]
         rfl
        refine take_ (i := 5) (N := some 22) (v := ?_) (a' := ?_) #[true, true, true, true, true, true, false, false] rfl rfl (take_ofW HT_.out HW_.out (by kernel_rfl)) (fun _ _ _ h => h) (Or.inl ⟨by rfl, ?_⟩) hHeld ?_ ?_
        rotate_left
        ·
         rintro w' ⟨s0, s1, s2, s3⟩
         go_simp
         with_reducible rfl
        rotate_left
        ·
         simp only [Act.put, List.setIfInBounds_toArray, List.set_cons_zero, List.set_cons_succ, i64_w, i32_w]
         rfl
        refine one_ (i := 6) (N := some 23) #[true, true, true, true, true, true, true, false] rfl rfl (one_of HT_.out (by kernel_rfl)) (by decide) (fun K hK => ?_)
        refine goes_ Try.func47 (by kernel_rfl) rfl #[.slice Ao12 x170002_1.length co12, .string (rdOf ByteArray.empty l1 x7_1)] (by rfl) rfl rfl (by (try simp only [List.map_toArray, List.map_cons, List.map_nil]); first | done | rfl | (simp only [List.length_drop, List.length_take]; rfl)) ?_
        with_reducible refine (selvedgeref15_Fits.calls k1 _ _ x170002_1 (rdOf ByteArray.empty l1 x7_1) true _ ?side1 ?side2 A7.out).mono ?_
        (case side1 => repeat (first | exact (Kd.V_reads' HO_170002.out).2.2 | (with_reducible refine Kd.C_alloc ?_ _) | (with_reducible refine Kd.C_drewN ?_ _) | (with_reducible refine Kd.C_drew ?_)))
        (case side2 => exact (Kd.V_reads' HO_170002.out).2.1)
        rintro e w' ⟨rfl, ⟨nd, rfl⟩⟩
        refine ⟨_, rfl, ?_⟩
        refine hK.out _ _ ⟨(blk_cell BK169.out 0).trans rfl, (blk_cell BK169.out 1).trans rfl, (blk_cell BK169.out 2).trans rfl, ((HB.out.cell (World.block_lt_of_cell? w _ hw171_0)).trans (by first | exact hw171_0))⟩ (fun hHeld => ?_)
        clear hK K
        refine norm_ (a' := ?_) ?_ ?_
        rotate_left
        ·
         show Act.put _ (some 23) _ = _
         simp only [Act.put, List.setIfInBounds_toArray, List.set_cons_zero, List.set_cons_succ, i64_w, i32_w]
         rfl
        refine pure_ (i := 7) (N := some 8) (v := ?_) (a' := ?_) #[true, true, true, true, true, true, true, true] rfl rfl (any_of HT_.out (by kernel_rfl)) (fun _ _ _ h => h) (Or.inl ⟨by rfl, ?_⟩) ?_ ?_
        rotate_left
        ·
         intro w'
         go_simp
         with_reducible rfl
        rotate_left
        ·
         simp only [Act.put, List.setIfInBounds_toArray, List.set_cons_zero, List.set_cons_succ, i64_w, i32_w]
         rfl
        refine done_ (done_of HT_.out (by kernel_rfl)) ?_
        try go_wp2
        (try (rw [drewN_self w11]; generalize hq_ : World.drewN w11 _ = w11; have n0_ : Aside0 (Kd.V Kd.string 9 w11 w.heap.size (fun k_ => (P0_2_ k_ ∨ w.heap.size ≤ k_) ∧ some k_ ≠ (u6 : Value).ownBlock ∧ k_ ≠ gb169 ∧ k_ ≠ gb170) (.slice Ao12 x170002_1.length co12) x170002_1) := ⟨by rw [← hq_]; exact (Kd.pV HO_170002.out)⟩; have n1_ : Aside0 (Kd.N k40 40 w11 w.heap.size (fun k_ => (P0_2_ k_ ∨ w.heap.size ≤ k_) ∧ k_ ≠ gb169 ∧ k_ ≠ gb170) u6 x6_1) := ⟨by rw [← hq_]; exact (Kd.pN HO_6.out)⟩; have n2_ : Aside0 (w11.heap[gb169]? = some (.cells #[.int .i64 x170000_1, .string x170001_1, .slice Ao12 x170002_1.length co12] 39 (0, 0))) := ⟨by rw [← hq_]; exact (pB BK169.out)⟩; have n3_ : Aside0 (w11.heap[gb170]? = some (.cells #[.int .i64 0, .string (⟨#[]⟩ : ByteArray), .slice none 0 0] 39 (0, 0))) := ⟨by rw [← hq_]; exact (pB BK170.out)⟩; have n4_ : Aside0 (Below w.heap.size w w11) := ⟨by rw [← hq_]; exact (by repeat (first | (with_reducible first | exact HB.out | apply below_alloc | apply pw_below_drewN | apply below_drew1 | refine below_set ?_ GE169.out | refine below_set ?_ GE170.out) | exact HB.out))⟩; clear HO_170002 HO_6 BK169 BK170 HB hq_; have HO_170002 := n0_; have HO_6 := n1_; have BK169 := n2_; have BK170 := n3_; have HB := n4_; clear n0_ n1_ n2_ n3_ n4_))
        have n0_ := Aside0.mk (Kd.N_drew HO_6.out)
        have n1_ := Aside0.mk (Kd.V_drew HO_170002.out)
        have n2_ := Aside0.mk (blk_drew BK169.out)
        have n3_ := Aside0.mk (blk_drew BK170.out)
        have n4_ := Aside0.mk (below_drew1 HB.out)
        clear HO_6
        clear HO_170002
        clear BK169
        clear BK170
        clear HB
        have HO_6 := n0_
        have HO_170002 := n1_
        have BK169 := n2_
        have BK170 := n3_
        have HB := n4_
        clear n0_ n1_ n2_ n3_ n4_
        have p179 : 0 ≤ (x7_1 : Int) := of_decide_eq_true (by first | (with_reducible assumption) | assumption)
        have q179 : x7_1 < (l1.length : Int) := of_decide_eq_true (by first | (with_reducible assumption) | assumption)
        obtain ⟨ad179, e179, hx179_0⟩ := Kd.at_string HR1.out x7_1 p179 q179
        have hw179_0 := hx179_0
        obtain rfl : ad171 = ad179 := (by injection e179)
        replace hx179_0 := (HB.out.cell (World.block_lt_of_cell? w _ hx179_0)).trans hx179_0
        replace p179 := eq_true p179
        replace q179 := eq_true q179
        refine start_ (n := 12) (S := fun w' => w'.cell? ⟨gb169, 0, none⟩ = some (.int .i64 x170000_1) ∧ w'.cell? ⟨gb169, 1, none⟩ = some (.string x170001_1) ∧ w'.cell? ⟨gb169, 2, none⟩ = some (.slice Ao12 x170002_1.length co12) ∧ w'.cell? (ad171.add (x7_1).toNat) = some (.string (rdOf ByteArray.empty l1 x7_1))) (ds := [11]) #[false, false, false, false, false, false, false, false, false, false, false, false] (by kernel_rfl) rfl rfl ⟨(blk_cell BK169.out 0).trans rfl, (blk_cell BK169.out 1).trans rfl, (blk_cell BK169.out 2).trans rfl, ((HB.out.cell (World.block_lt_of_cell? w _ hw179_0)).trans (by first | exact hw179_0))⟩ (fun hHeld => ?_); refine with_tabW selvedgeref15_Feed.tab10 selvedgeref15_Feed.bits10 (fun HT_ HW_ => ?_)
        generalize w11.drew = w13 at HO_6 HO_170002 BK169 BK170 HB hx179_0 hHeld ⊢
        refine pure_ (i := 1) (N := some 36) (v := ?_) (a' := ?_) #[false, true, false, false, false, false, false, false, false, false, false, false] rfl rfl (any_of HT_.out (by kernel_rfl)) (fun _ _ _ h => h) (Or.inl ⟨by rfl, ?_⟩) ?_ ?_
        rotate_left
        ·
         intro w'
         go_simp
         with_reducible rfl
        rotate_left
        ·
         simp only [Act.put, List.setIfInBounds_toArray, List.set_cons_zero, List.set_cons_succ, i64_w, i32_w]
         rfl
        refine pure_ (i := 4) (N := some 39) (v := ?_) (a' := ?_) #[false, true, false, false, true, false, false, false, false, false, false, false] rfl rfl (any_of HT_.out (by kernel_rfl)) (fun _ _ _ h => h) (Or.inl ⟨by rfl, ?_⟩) ?_ ?_
        rotate_left
        ·
         intro w'
         go_simp
         with_reducible rfl
        rotate_left
        ·
         simp only [Act.put, List.setIfInBounds_toArray, List.set_cons_zero, List.set_cons_succ, i64_w, i32_w]
         rfl
        refine pure_ (i := 5) (N := some 40) (v := ?_) (a' := ?_) #[false, true, false, false, true, true, false, false, false, false, false, false] rfl rfl (any_of HT_.out (by kernel_rfl)) (fun _ _ _ h => h) (Or.inl ⟨by rfl, ?_⟩) ?_ ?_
        rotate_left
        ·
         intro w'
         go_simp
         with_reducible rfl
        rotate_left
        ·
         simp only [Act.put, List.setIfInBounds_toArray, List.set_cons_zero, List.set_cons_succ, i64_w, i32_w]
         rfl
        refine pure_ (i := 6) (N := some 41) (v := ?_) (a' := ?_) #[false, true, false, false, true, true, true, false, false, false, false, false] rfl rfl (any_of HT_.out (by kernel_rfl)) (fun _ _ _ h => h) (Or.inl ⟨by rfl, ?_⟩) ?_ ?_
        rotate_left
        ·
         intro w'
         go_simp
         with_reducible rfl
        rotate_left
        ·
         simp only [Act.put, List.setIfInBounds_toArray, List.set_cons_zero, List.set_cons_succ, i64_w, i32_w]
         rfl
        refine take_ (i := 2) (N := some 37) (v := ?_) (a' := ?_) #[false, true, true, false, true, true, true, false, false, false, false, false] rfl rfl (take_ofW HT_.out HW_.out (by kernel_rfl)) (fun _ _ _ h => h) (Or.inl ⟨by rfl, ?_⟩) hHeld ?_ ?_
        rotate_left
        ·
         rintro w' ⟨s0, s1, s2, s3⟩
         go_simp
         with_reducible rfl
        rotate_left
        ·
         simp only [Act.put, List.setIfInBounds_toArray, List.set_cons_zero, List.set_cons_succ, i64_w, i32_w]
         rfl
        refine take_ (i := 7) (N := some 42) (v := ?_) (a' := ?_) #[false, true, true, false, true, true, true, true, false, false, false, false] rfl rfl (take_ofW HT_.out HW_.out (by kernel_rfl)) (fun _ _ _ h => h) (Or.inl ⟨by rfl, ?_⟩) hHeld ?_ ?_
        rotate_left
        ·
         rintro w' ⟨s0, s1, s2, s3⟩
         go_simp
         with_reducible rfl
        rotate_left
        ·
         simp only [Act.put, List.setIfInBounds_toArray, List.set_cons_zero, List.set_cons_succ, i64_w, i32_w]
         rfl
        refine join_ (σ := Value × Value × Value) 3 #[true, true, true, true, true, true, true, true, true, false, false, false] (fun s_ => [(35, s_.1), (38, s_.2.1), (43, s_.2.2)]) (fun s_ w' => (w'.cell? ⟨gb169, 0, none⟩ = some (.int .i64 x170000_1) ∧ w'.cell? ⟨gb169, 1, none⟩ = some (.string x170001_1) ∧ w'.cell? ⟨gb169, 2, none⟩ = some (.slice Ao12 x170002_1.length co12) ∧ w'.cell? (ad171.add (x7_1).toNat) = some (.string (rdOf ByteArray.empty l1 x7_1))) ∧ (Kd.R Kd.string 9 w' w.heap.size (fun k_ => (w.heap.size ≤ k_) ∧ some k_ ≠ (s_.2.2 : Value).ownBlock) s_.2.1 y176) ∧ (Kd.R Kd.string 9 w' w.heap.size (fun k_ => (w.heap.size ≤ k_) ∧ some k_ ≠ (s_.2.1 : Value).ownBlock) s_.2.2 y180) ∧ (Kd.V Kd.string 9 w' w.heap.size (fun k_ => (P0_2_ k_ ∨ w.heap.size ≤ k_) ∧ some k_ ≠ (s_.2.1 : Value).ownBlock ∧ some k_ ≠ (s_.2.2 : Value).ownBlock ∧ some k_ ≠ (u6 : Value).ownBlock ∧ k_ ≠ gb169 ∧ k_ ≠ gb170) (.slice Ao12 x170002_1.length co12) x170002_1) ∧ (Kd.N k40 40 w' w.heap.size (fun k_ => (P0_2_ k_ ∨ w.heap.size ≤ k_) ∧ some k_ ≠ (s_.2.1 : Value).ownBlock ∧ some k_ ≠ (s_.2.2 : Value).ownBlock ∧ k_ ≠ gb169 ∧ k_ ≠ gb170) u6 x6_1) ∧ (w'.heap[gb169]? = some (.cells #[.int .i64 x170000_1, .string x170001_1, .slice Ao12 x170002_1.length co12] 39 (0, 0))) ∧ (w'.heap[gb170]? = some (.cells #[.int .i64 0, .string (⟨#[]⟩ : ByteArray), .slice none 0 0] 39 (0, 0))) ∧ (Below w.heap.size w w')) ?_ ?_
        rotate_left
        ·
         intro hCont
         refine two_ (i := 0) (j := 8) (Ni := some 35) (Nj := some 43) #[true, true, true, false, true, true, true, true, false, false, false, false] #[false, true, true, false, true, true, true, true, true, false, false, false] rfl rfl rfl rfl (two_of HT_.out (by kernel_rfl)) (by decide) (by decide) (fun K hK => ?_) (fun K hK => ?_)
         ·
          skip
          refine Kd.R_lit_step Kd.string _ 9 ?hg (N := 35) ?hd (xs := ([] : List ByteArray)) (inner := []) (ok := fun _ => True) (okp := fun _ => True) ?hr ?hp (fun _ hk => hk) trivial (Below.refl _ _) (Nat.le_refl _) (by simp) ?_; (case hd => rfl); (case hg => rfl); (case hr => first | (go_simp; done) | (go_simp; rfl)); (case hp => exact (Reps.none _ _))
          intro v174 w14 ho15 hb hg_ hnew_
          clear hg_ hnew_
          (first | rw [← Ny173.out] at ho15 | (simp only [Int.reduceToNat] at ho15; rw [← Ny173.out] at ho15))
          have n0_ := Aside0.mk (Kd.N_elder' (Kd.pN HO_6.out) (Kd.R_base ho15) hb)
          have n1_ := Aside0.mk (Kd.V_elder' (Kd.pV HO_170002.out) (Kd.R_base ho15) hb)
          have n2_ := Aside0.mk (Kd.R_lower (Kd.R_newM (M := fun k_ => (w.heap.size ≤ k_)) ho15 (below_size (by repeat (first | (with_reducible first | exact HB.out | apply below_alloc | apply pw_below_drewN | apply below_drew1 | refine below_set ?_ GE169.out | refine below_set ?_ GE170.out) | exact HB.out))) (fun k_ h_ => h_)) (below_size (by repeat (first | (with_reducible first | exact HB.out | apply below_alloc | apply pw_below_drewN | apply below_drew1 | refine below_set ?_ GE169.out | refine below_set ?_ GE170.out) | exact HB.out))))
          have n3_ := Aside0.mk (blk_below (g := gb169) (o := .cells #[.int .i64 x170000_1, .string x170001_1, .slice Ao12 x170002_1.length co12] 39 (0, 0)) (pB BK169.out) hb)
          have n4_ := Aside0.mk (blk_below (g := gb170) (o := .cells #[.int .i64 0, .string (⟨#[]⟩ : ByteArray), .slice none 0 0] 39 (0, 0)) (pB BK170.out) hb)
          have n5_ := Aside0.mk (below_step (by repeat (first | (with_reducible first | exact HB.out | apply below_alloc | apply pw_below_drewN | apply below_drew1 | refine below_set ?_ GE169.out | refine below_set ?_ GE170.out) | exact HB.out)) hb)
          clear HO_6
          clear HO_170002
          clear BK169
          clear BK170
          clear HB
          have HO_6 := n0_
          have HO_170002 := n1_
          have HO175 := n2_
          have BK169 := n3_
          have BK170 := n4_
          have HB := n5_
          clear n0_ n1_ n2_ n3_ n4_ n5_
          clear hb ho15
          refine hK.out _ _ ⟨(blk_cell BK169.out 0).trans rfl, (blk_cell BK169.out 1).trans rfl, (blk_cell BK169.out 2).trans rfl, ((HB.out.cell (World.block_lt_of_cell? w _ hw179_0)).trans (by first | exact hw179_0))⟩ (fun hHeld => ?_)
          clear hK K
          refine norm_ (a' := ?_) ?_ ?_
          rotate_left
          ·
           show Act.put _ (some 35) _ = _
           simp only [Act.put, List.setIfInBounds_toArray, List.set_cons_zero, List.set_cons_succ, i64_w, i32_w]
           rfl
          refine two_ (i := 3) (j := 8) (Ni := some 38) (Nj := some 43) #[true, true, true, true, true, true, true, true, false, false, false, false] #[true, true, true, false, true, true, true, true, true, false, false, false] rfl rfl rfl rfl (two_of HT_.out (by kernel_rfl)) (by decide) (by decide) (fun K hK => ?_) (fun K hK => ?_)
          ·
           skip
           refine Kd.R_append_rows_step Kd.string (w0 := w) w.heap.size (by rfl) (.tmp 35) (.tmp 37) 37 9 (.string ⟨#[]⟩) 16 rfl Try.underlying37 info9 rfl (by decide) (by omega) v174 y173 x170002_1 _ _ _ (fun k_ => (w.heap.size ≤ k_)) (fun _ => False) rfl rfl ?aO ?aR (fun _ _ h => h) (fun _ h => h.elim) ?aF ?aB ?aS ?aL ?_
           (case aR => repeat (first | exact (Kd.V_reads' HO_170002.out).2.2 | (with_reducible refine Kd.C_alloc ?_ _) | (with_reducible refine Kd.C_drewN ?_ _) | (with_reducible refine Kd.C_drew ?_)))
           (case aB => exact (by repeat (first | (with_reducible first | exact HB.out | apply below_alloc | apply pw_below_drewN | apply below_drew1 | refine below_set ?_ GE169.out | refine below_set ?_ GE170.out) | exact HB.out)))
           (case aF => exact (fun k_ hk => (Nat.le_trans (below_size (by repeat (first | (with_reducible first | exact HB.out | apply below_alloc | apply pw_below_drewN | apply below_drew1 | refine below_set ?_ GE169.out | refine below_set ?_ GE170.out) | exact HB.out))) hk)))
           (case aO => exact (Kd.pR (Kd.R_mono HO175.out (fun _ hk => hk.1))))
           (case aS => exact (below_size (by repeat (first | (with_reducible first | exact HB.out | apply below_alloc | apply pw_below_drewN | apply below_drew1 | refine below_set ?_ GE169.out | refine below_set ?_ GE170.out) | exact HB.out))))
           (case aL => have := LMc9.out; omega)
           intro v177 w16 ho hb hg hat
           rw [← Ny176.out] at ho
           have n0_ := Aside0.mk (Kd.N_afterv (ok := (fun k_ => (P0_2_ k_ ∨ w.heap.size ≤ k_) ∧ k_ ≠ gb169 ∧ k_ ≠ gb170)) (Kd.pN HO_6.out) hg hat)
           have n1_ := Aside0.mk (Kd.V_afterv (ok := (fun k_ => (P0_2_ k_ ∨ w.heap.size ≤ k_) ∧ some k_ ≠ (u6 : Value).ownBlock ∧ k_ ≠ gb169 ∧ k_ ≠ gb170)) (Kd.pV HO_170002.out) hg hat)
           have n2_ := Aside0.mk (blk_grown (g := gb169) (o := .cells #[.int .i64 x170000_1, .string x170001_1, .slice Ao12 x170002_1.length co12] 39 (0, 0)) (pB BK169.out) hg (Kd.R_ne HO175.out BK169.out (by decide)))
           have n3_ := Aside0.mk (blk_grown (g := gb170) (o := .cells #[.int .i64 0, .string (⟨#[]⟩ : ByteArray), .slice none 0 0] 39 (0, 0)) (pB BK170.out) hg (Kd.R_ne HO175.out BK170.out (by decide)))
           have n4_ := Aside0.mk (hb)
           have n5_ := Aside0.mk (ho)
           clear HO_6
           clear HO_170002
           clear BK169
           clear BK170
           clear HB
           clear HO175
           have HO_6 := n0_
           have HO_170002 := n1_
           have BK169 := n2_
           have BK170 := n3_
           have HB := n4_
           have HO178 := n5_
           clear n0_ n1_ n2_ n3_ n4_ n5_
           clear ho hb hg hat
           refine hK.out _ _ ⟨(blk_cell BK169.out 0).trans rfl, (blk_cell BK169.out 1).trans rfl, (blk_cell BK169.out 2).trans rfl, ((HB.out.cell (World.block_lt_of_cell? w _ hw179_0)).trans (by first | exact hw179_0))⟩ (fun hHeld => ?_)
           clear hK K
           refine norm_ (a' := ?_) ?_ ?_
           rotate_left
           ·
            show Act.put _ (some 38) _ = _
            simp only [Act.put, List.setIfInBounds_toArray, List.set_cons_zero, List.set_cons_succ, i64_w, i32_w]
            rfl
           refine one_ (i := 8) (N := some 43) #[true, true, true, true, true, true, true, true, true, false, false, false] rfl rfl (one_of HT_.out (by kernel_rfl)) (by decide) (fun K hK => ?_)
           refine Kd.R_lit_step Kd.string _ 9 ?hg (N := 43) ?hd (xs := ([rdOf ByteArray.empty l1 x7_1] : List ByteArray)) (inner := [.string (rdOf ByteArray.empty l1 x7_1)]) (ok := fun _ => True) (okp := fun _ => True) ?hr ?hp (fun _ hk => hk) trivial (Below.refl _ _) (Nat.le_refl _) (by simp) ?_; (case hd => rfl); (case hg => rfl); (case hr => first | (go_simp; done) | (go_simp; rfl)); (case hp => exact (Reps.one (show Kd.M Kd.string _ _ _ (rdOf ByteArray.empty l1 x7_1) [.string (rdOf ByteArray.empty l1 x7_1)] from rfl) (Reps.none _ _)))
           intro v181 w17 ho18 hb hg_ hnew_
           clear hg_ hnew_
           (first | rw [← Ny180.out] at ho18 | (simp only [Int.reduceToNat] at ho18; rw [← Ny180.out] at ho18))
           have n0_ := Aside0.mk (Kd.N_elder' (Kd.pN HO_6.out) (Kd.R_base ho18) hb)
           have n1_ := Aside0.mk (Kd.V_elder' (Kd.pV HO_170002.out) (Kd.R_base ho18) hb)
           have n2_ := Aside0.mk (Kd.R_elder' (Kd.pR HO178.out) (Kd.R_base ho18) hb)
           have n3_ := Aside0.mk (Kd.R_lower (Kd.R_new' (Kd.R_newM (M := fun k_ => (w.heap.size ≤ k_)) ho18 (below_size (by repeat (first | (with_reducible first | exact HB.out | apply below_alloc | apply pw_below_drewN | apply below_drew1 | refine below_set ?_ GE169.out | refine below_set ?_ GE170.out) | exact HB.out))) (fun k_ h_ => h_)) (Kd.R_lt (Kd.pR HO178.out))) (below_size (by repeat (first | (with_reducible first | exact HB.out | apply below_alloc | apply pw_below_drewN | apply below_drew1 | refine below_set ?_ GE169.out | refine below_set ?_ GE170.out) | exact HB.out))))
           have n4_ := Aside0.mk (blk_below (g := gb169) (o := .cells #[.int .i64 x170000_1, .string x170001_1, .slice Ao12 x170002_1.length co12] 39 (0, 0)) (pB BK169.out) hb)
           have n5_ := Aside0.mk (blk_below (g := gb170) (o := .cells #[.int .i64 0, .string (⟨#[]⟩ : ByteArray), .slice none 0 0] 39 (0, 0)) (pB BK170.out) hb)
           have n6_ := Aside0.mk (below_step (by repeat (first | (with_reducible first | exact HB.out | apply below_alloc | apply pw_below_drewN | apply below_drew1 | refine below_set ?_ GE169.out | refine below_set ?_ GE170.out) | exact HB.out)) hb)
           clear HO_6
           clear HO_170002
           clear HO178
           clear BK169
           clear BK170
           clear HB
           have HO_6 := n0_
           have HO_170002 := n1_
           have HO178 := n2_
           have HO182 := n3_
           have BK169 := n4_
           have BK170 := n5_
           have HB := n6_
           clear n0_ n1_ n2_ n3_ n4_ n5_ n6_
           clear hb ho18
           refine hK.out _ _ ⟨(blk_cell BK169.out 0).trans rfl, (blk_cell BK169.out 1).trans rfl, (blk_cell BK169.out 2).trans rfl, ((HB.out.cell (World.block_lt_of_cell? w _ hw179_0)).trans (by first | exact hw179_0))⟩ (fun hHeld => ?_)
           clear hK K
           refine norm_ (a' := ?_) ?_ ?_
           rotate_left
           ·
            show Act.put _ (some 43) _ = _
            simp only [Act.put, List.setIfInBounds_toArray, List.set_cons_zero, List.set_cons_succ, i64_w, i32_w]
            rfl
           exact norm_ (by simp only [putAll, Act.put, List.setIfInBounds_toArray, List.set_cons_zero, List.set_cons_succ]) (hCont (v174, v177, v181) _ ⟨hHeld, (Kd.pR HO178.out), (Kd.pR (Kd.R_mono HO182.out (fun _ hk => ⟨hk.1.1, hk.2⟩))), (Kd.pV (Kd.V_mono HO_170002.out (fun _ hk => ⟨hk.1.1.1, ⟨hk.1.2, ⟨hk.2, ⟨hk.1.1.2.1, ⟨hk.1.1.2.2.1, hk.1.1.2.2.2⟩⟩⟩⟩⟩))), (Kd.pN (Kd.N_mono HO_6.out (fun _ hk => ⟨hk.1.1.1, ⟨hk.1.2, ⟨hk.2, ⟨hk.1.1.2.1, hk.1.1.2.2⟩⟩⟩⟩))), (pB BK169.out), (pB BK170.out), (by repeat (first | (with_reducible first | exact HB.out | apply below_alloc | apply pw_below_drewN | apply below_drew1 | refine below_set ?_ GE169.out | refine below_set ?_ GE170.out) | exact HB.out))⟩)
          ·
           skip
           refine Kd.R_lit_step Kd.string _ 9 ?hg (N := 43) ?hd (xs := ([rdOf ByteArray.empty l1 x7_1] : List ByteArray)) (inner := [.string (rdOf ByteArray.empty l1 x7_1)]) (ok := fun _ => True) (okp := fun _ => True) ?hr ?hp (fun _ hk => hk) trivial (Below.refl _ _) (Nat.le_refl _) (by simp) ?_; (case hd => rfl); (case hg => rfl); (case hr => first | (go_simp; done) | (go_simp; rfl)); (case hp => exact (Reps.one (show Kd.M Kd.string _ _ _ (rdOf ByteArray.empty l1 x7_1) [.string (rdOf ByteArray.empty l1 x7_1)] from rfl) (Reps.none _ _)))
           intro v181 w16 ho17 hb hg_ hnew_
           clear hg_ hnew_
           (first | rw [← Ny180.out] at ho17 | (simp only [Int.reduceToNat] at ho17; rw [← Ny180.out] at ho17))
           have n0_ := Aside0.mk (Kd.N_elder' (Kd.pN HO_6.out) (Kd.R_base ho17) hb)
           have n1_ := Aside0.mk (Kd.V_elder' (Kd.pV HO_170002.out) (Kd.R_base ho17) hb)
           have n2_ := Aside0.mk (Kd.R_elder' (Kd.pR HO175.out) (Kd.R_base ho17) hb)
           have n3_ := Aside0.mk (Kd.R_lower (Kd.R_new' (Kd.R_newM (M := fun k_ => (w.heap.size ≤ k_)) ho17 (below_size (by repeat (first | (with_reducible first | exact HB.out | apply below_alloc | apply pw_below_drewN | apply below_drew1 | refine below_set ?_ GE169.out | refine below_set ?_ GE170.out) | exact HB.out))) (fun k_ h_ => h_)) (Kd.R_lt (Kd.pR HO175.out))) (below_size (by repeat (first | (with_reducible first | exact HB.out | apply below_alloc | apply pw_below_drewN | apply below_drew1 | refine below_set ?_ GE169.out | refine below_set ?_ GE170.out) | exact HB.out))))
           have n4_ := Aside0.mk (blk_below (g := gb169) (o := .cells #[.int .i64 x170000_1, .string x170001_1, .slice Ao12 x170002_1.length co12] 39 (0, 0)) (pB BK169.out) hb)
           have n5_ := Aside0.mk (blk_below (g := gb170) (o := .cells #[.int .i64 0, .string (⟨#[]⟩ : ByteArray), .slice none 0 0] 39 (0, 0)) (pB BK170.out) hb)
           have n6_ := Aside0.mk (below_step (by repeat (first | (with_reducible first | exact HB.out | apply below_alloc | apply pw_below_drewN | apply below_drew1 | refine below_set ?_ GE169.out | refine below_set ?_ GE170.out) | exact HB.out)) hb)
           clear HO_6
           clear HO_170002
           clear HO175
           clear BK169
           clear BK170
           clear HB
           have HO_6 := n0_
           have HO_170002 := n1_
           have HO175 := n2_
           have HO182 := n3_
           have BK169 := n4_
           have BK170 := n5_
           have HB := n6_
           clear n0_ n1_ n2_ n3_ n4_ n5_ n6_
           clear hb ho17
           refine hK.out _ _ ⟨(blk_cell BK169.out 0).trans rfl, (blk_cell BK169.out 1).trans rfl, (blk_cell BK169.out 2).trans rfl, ((HB.out.cell (World.block_lt_of_cell? w _ hw179_0)).trans (by first | exact hw179_0))⟩ (fun hHeld => ?_)
           clear hK K
           refine norm_ (a' := ?_) ?_ ?_
           rotate_left
           ·
            show Act.put _ (some 43) _ = _
            simp only [Act.put, List.setIfInBounds_toArray, List.set_cons_zero, List.set_cons_succ, i64_w, i32_w]
            rfl
           refine one_ (i := 3) (N := some 38) #[true, true, true, true, true, true, true, true, true, false, false, false] rfl rfl (one_of HT_.out (by kernel_rfl)) (by decide) (fun K hK => ?_)
           refine Kd.R_append_rows_step Kd.string (w0 := w) w.heap.size (by rfl) (.tmp 35) (.tmp 37) 37 9 (.string ⟨#[]⟩) 16 rfl Try.underlying37 info9 rfl (by decide) (by omega) v174 y173 x170002_1 _ _ _ (fun k_ => (w.heap.size ≤ k_) ∧ some k_ ≠ (v181 : Value).ownBlock) (fun _ => False) rfl rfl ?aO ?aR (fun _ _ h => h) (fun _ h => h.elim) ?aF ?aB ?aS ?aL ?_
           (case aR => repeat (first | exact (Kd.V_reads' HO_170002.out).2.2 | (with_reducible refine Kd.C_alloc ?_ _) | (with_reducible refine Kd.C_drewN ?_ _) | (with_reducible refine Kd.C_drew ?_)))
           (case aB => exact (by repeat (first | (with_reducible first | exact HB.out | apply below_alloc | apply pw_below_drewN | apply below_drew1 | refine below_set ?_ GE169.out | refine below_set ?_ GE170.out) | exact HB.out)))
           (case aF => exact (fun k_ hk => ⟨(Nat.le_trans (below_size (by repeat (first | (with_reducible first | exact HB.out | apply below_alloc | apply pw_below_drewN | apply below_drew1 | refine below_set ?_ GE169.out | refine below_set ?_ GE170.out) | exact HB.out))) hk), Kd.fresh' (Kd.R_lt (Kd.pR HO182.out)) k_ hk⟩))
           (case aO => exact (Kd.pR (Kd.R_mono HO175.out (fun _ hk => ⟨hk.1.1, hk.2⟩))))
           (case aS => exact (below_size (by repeat (first | (with_reducible first | exact HB.out | apply below_alloc | apply pw_below_drewN | apply below_drew1 | refine below_set ?_ GE169.out | refine below_set ?_ GE170.out) | exact HB.out))))
           (case aL => have := LMc9.out; omega)
           intro v177 w18 ho hb hg hat
           rw [← Ny176.out] at ho
           have n0_ := Aside0.mk (Kd.N_afterv (ok := (fun k_ => (P0_2_ k_ ∨ w.heap.size ≤ k_) ∧ some k_ ≠ (v181 : Value).ownBlock ∧ k_ ≠ gb169 ∧ k_ ≠ gb170)) (Kd.pN (Kd.N_mono HO_6.out (fun _ hk => ⟨⟨hk.1.1.1, ⟨hk.2, ⟨hk.1.1.2.1, hk.1.1.2.2⟩⟩⟩, hk.1.2⟩))) hg hat)
           have n1_ := Aside0.mk (Kd.V_afterv (ok := (fun k_ => (P0_2_ k_ ∨ w.heap.size ≤ k_) ∧ some k_ ≠ (u6 : Value).ownBlock ∧ some k_ ≠ (v181 : Value).ownBlock ∧ k_ ≠ gb169 ∧ k_ ≠ gb170)) (Kd.pV (Kd.V_mono HO_170002.out (fun _ hk => ⟨⟨hk.1.1.1, ⟨hk.1.1.2.1, ⟨hk.2, ⟨hk.1.1.2.2.1, hk.1.1.2.2.2⟩⟩⟩⟩, hk.1.2⟩))) hg hat)
           have n2_ := Aside0.mk (blk_grown (g := gb169) (o := .cells #[.int .i64 x170000_1, .string x170001_1, .slice Ao12 x170002_1.length co12] 39 (0, 0)) (pB BK169.out) hg (Kd.R_ne HO175.out BK169.out (by decide)))
           have n3_ := Aside0.mk (blk_grown (g := gb170) (o := .cells #[.int .i64 0, .string (⟨#[]⟩ : ByteArray), .slice none 0 0] 39 (0, 0)) (pB BK170.out) hg (Kd.R_ne HO175.out BK170.out (by decide)))
           have n4_ := Aside0.mk (Kd.R_after (ok := (fun k_ => (w.heap.size ≤ k_))) (Kd.pR (Kd.R_mono HO182.out (fun _ hk => ⟨hk.1.1, hk.2⟩))) hg hat)
           have n5_ := Aside0.mk (hb)
           have n6_ := Aside0.mk (ho)
           clear HO_6
           clear HO_170002
           clear BK169
           clear BK170
           clear HO182
           clear HB
           clear HO175
           have HO_6 := n0_
           have HO_170002 := n1_
           have BK169 := n2_
           have BK170 := n3_
           have HO182 := n4_
           have HB := n5_
           have HO178 := n6_
           clear n0_ n1_ n2_ n3_ n4_ n5_ n6_
           clear ho hb hg hat
           refine hK.out _ _ ⟨(blk_cell BK169.out 0).trans rfl, (blk_cell BK169.out 1).trans rfl, (blk_cell BK169.out 2).trans rfl, ((HB.out.cell (World.block_lt_of_cell? w _ hw179_0)).trans (by first | exact hw179_0))⟩ (fun hHeld => ?_)
           clear hK K
           refine norm_ (a' := ?_) ?_ ?_
           rotate_left
           ·
            show Act.put _ (some 38) _ = _
            simp only [Act.put, List.setIfInBounds_toArray, List.set_cons_zero, List.set_cons_succ, i64_w, i32_w]
            rfl
           exact norm_ (by simp only [putAll, Act.put, List.setIfInBounds_toArray, List.set_cons_zero, List.set_cons_succ]) (hCont (v174, v177, v181) _ ⟨hHeld, (Kd.pR HO178.out), (Kd.pR HO182.out), (Kd.pV (Kd.V_mono HO_170002.out (fun _ hk => ⟨hk.1.1, ⟨hk.2, ⟨hk.1.2.2.1, ⟨hk.1.2.1, ⟨hk.1.2.2.2.1, hk.1.2.2.2.2⟩⟩⟩⟩⟩))), (Kd.pN (Kd.N_mono HO_6.out (fun _ hk => ⟨hk.1.1, ⟨hk.2, ⟨hk.1.2.1, ⟨hk.1.2.2.1, hk.1.2.2.2⟩⟩⟩⟩))), (pB BK169.out), (pB BK170.out), (by repeat (first | (with_reducible first | exact HB.out | apply below_alloc | apply pw_below_drewN | apply below_drew1 | refine below_set ?_ GE169.out | refine below_set ?_ GE170.out) | exact HB.out))⟩)
         ·
          skip
          refine Kd.R_lit_step Kd.string _ 9 ?hg (N := 43) ?hd (xs := ([rdOf ByteArray.empty l1 x7_1] : List ByteArray)) (inner := [.string (rdOf ByteArray.empty l1 x7_1)]) (ok := fun _ => True) (okp := fun _ => True) ?hr ?hp (fun _ hk => hk) trivial (Below.refl _ _) (Nat.le_refl _) (by simp) ?_; (case hd => rfl); (case hg => rfl); (case hr => first | (go_simp; done) | (go_simp; rfl)); (case hp => exact (Reps.one (show Kd.M Kd.string _ _ _ (rdOf ByteArray.empty l1 x7_1) [.string (rdOf ByteArray.empty l1 x7_1)] from rfl) (Reps.none _ _)))
          intro v181 w14 ho15 hb hg_ hnew_
          clear hg_ hnew_
          (first | rw [← Ny180.out] at ho15 | (simp only [Int.reduceToNat] at ho15; rw [← Ny180.out] at ho15))
          have n0_ := Aside0.mk (Kd.N_elder' (Kd.pN HO_6.out) (Kd.R_base ho15) hb)
          have n1_ := Aside0.mk (Kd.V_elder' (Kd.pV HO_170002.out) (Kd.R_base ho15) hb)
          have n2_ := Aside0.mk (Kd.R_lower (Kd.R_newM (M := fun k_ => (w.heap.size ≤ k_)) ho15 (below_size (by repeat (first | (with_reducible first | exact HB.out | apply below_alloc | apply pw_below_drewN | apply below_drew1 | refine below_set ?_ GE169.out | refine below_set ?_ GE170.out) | exact HB.out))) (fun k_ h_ => h_)) (below_size (by repeat (first | (with_reducible first | exact HB.out | apply below_alloc | apply pw_below_drewN | apply below_drew1 | refine below_set ?_ GE169.out | refine below_set ?_ GE170.out) | exact HB.out))))
          have n3_ := Aside0.mk (blk_below (g := gb169) (o := .cells #[.int .i64 x170000_1, .string x170001_1, .slice Ao12 x170002_1.length co12] 39 (0, 0)) (pB BK169.out) hb)
          have n4_ := Aside0.mk (blk_below (g := gb170) (o := .cells #[.int .i64 0, .string (⟨#[]⟩ : ByteArray), .slice none 0 0] 39 (0, 0)) (pB BK170.out) hb)
          have n5_ := Aside0.mk (below_step (by repeat (first | (with_reducible first | exact HB.out | apply below_alloc | apply pw_below_drewN | apply below_drew1 | refine below_set ?_ GE169.out | refine below_set ?_ GE170.out) | exact HB.out)) hb)
          clear HO_6
          clear HO_170002
          clear BK169
          clear BK170
          clear HB
          have HO_6 := n0_
          have HO_170002 := n1_
          have HO182 := n2_
          have BK169 := n3_
          have BK170 := n4_
          have HB := n5_
          clear n0_ n1_ n2_ n3_ n4_ n5_
          clear hb ho15
          refine hK.out _ _ ⟨(blk_cell BK169.out 0).trans rfl, (blk_cell BK169.out 1).trans rfl, (blk_cell BK169.out 2).trans rfl, ((HB.out.cell (World.block_lt_of_cell? w _ hw179_0)).trans (by first | exact hw179_0))⟩ (fun hHeld => ?_)
          clear hK K
          refine norm_ (a' := ?_) ?_ ?_
          rotate_left
          ·
           show Act.put _ (some 43) _ = _
           simp only [Act.put, List.setIfInBounds_toArray, List.set_cons_zero, List.set_cons_succ, i64_w, i32_w]
           rfl
          refine one_ (i := 0) (N := some 35) #[true, true, true, false, true, true, true, true, true, false, false, false] rfl rfl (one_of HT_.out (by kernel_rfl)) (by decide) (fun K hK => ?_)
          refine Kd.R_lit_step Kd.string _ 9 ?hg (N := 35) ?hd (xs := ([] : List ByteArray)) (inner := []) (ok := fun _ => True) (okp := fun _ => True) ?hr ?hp (fun _ hk => hk) trivial (Below.refl _ _) (Nat.le_refl _) (by simp) ?_; (case hd => rfl); (case hg => rfl); (case hr => first | (go_simp; done) | (go_simp; rfl)); (case hp => exact (Reps.none _ _))
          intro v174 w16 ho17 hb hg_ hnew_
          clear hg_ hnew_
          (first | rw [← Ny173.out] at ho17 | (simp only [Int.reduceToNat] at ho17; rw [← Ny173.out] at ho17))
          have n0_ := Aside0.mk (Kd.N_elder' (Kd.pN HO_6.out) (Kd.R_base ho17) hb)
          have n1_ := Aside0.mk (Kd.V_elder' (Kd.pV HO_170002.out) (Kd.R_base ho17) hb)
          have n2_ := Aside0.mk (Kd.R_elder' (Kd.pR HO182.out) (Kd.R_base ho17) hb)
          have n3_ := Aside0.mk (Kd.R_lower (Kd.R_new' (Kd.R_newM (M := fun k_ => (w.heap.size ≤ k_)) ho17 (below_size (by repeat (first | (with_reducible first | exact HB.out | apply below_alloc | apply pw_below_drewN | apply below_drew1 | refine below_set ?_ GE169.out | refine below_set ?_ GE170.out) | exact HB.out))) (fun k_ h_ => h_)) (Kd.R_lt (Kd.pR HO182.out))) (below_size (by repeat (first | (with_reducible first | exact HB.out | apply below_alloc | apply pw_below_drewN | apply below_drew1 | refine below_set ?_ GE169.out | refine below_set ?_ GE170.out) | exact HB.out))))
          have n4_ := Aside0.mk (blk_below (g := gb169) (o := .cells #[.int .i64 x170000_1, .string x170001_1, .slice Ao12 x170002_1.length co12] 39 (0, 0)) (pB BK169.out) hb)
          have n5_ := Aside0.mk (blk_below (g := gb170) (o := .cells #[.int .i64 0, .string (⟨#[]⟩ : ByteArray), .slice none 0 0] 39 (0, 0)) (pB BK170.out) hb)
          have n6_ := Aside0.mk (below_step (by repeat (first | (with_reducible first | exact HB.out | apply below_alloc | apply pw_below_drewN | apply below_drew1 | refine below_set ?_ GE169.out | refine below_set ?_ GE170.out) | exact HB.out)) hb)
          clear HO_6
          clear HO_170002
          clear HO182
          clear BK169
          clear BK170
          clear HB
          have HO_6 := n0_
          have HO_170002 := n1_
          have HO182 := n2_
          have HO175 := n3_
          have BK169 := n4_
          have BK170 := n5_
          have HB := n6_
          clear n0_ n1_ n2_ n3_ n4_ n5_ n6_
          clear hb ho17
          refine hK.out _ _ ⟨(blk_cell BK169.out 0).trans rfl, (blk_cell BK169.out 1).trans rfl, (blk_cell BK169.out 2).trans rfl, ((HB.out.cell (World.block_lt_of_cell? w _ hw179_0)).trans (by first | exact hw179_0))⟩ (fun hHeld => ?_)
          clear hK K
          refine norm_ (a' := ?_) ?_ ?_
          rotate_left
          ·
           show Act.put _ (some 35) _ = _
           simp only [Act.put, List.setIfInBounds_toArray, List.set_cons_zero, List.set_cons_succ, i64_w, i32_w]
           rfl
          refine one_ (i := 3) (N := some 38) #[true, true, true, true, true, true, true, true, true, false, false, false] rfl rfl (one_of HT_.out (by kernel_rfl)) (by decide) (fun K hK => ?_)
          refine Kd.R_append_rows_step Kd.string (w0 := w) w.heap.size (by rfl) (.tmp 35) (.tmp 37) 37 9 (.string ⟨#[]⟩) 16 rfl Try.underlying37 info9 rfl (by decide) (by omega) v174 y173 x170002_1 _ _ _ (fun k_ => (w.heap.size ≤ k_) ∧ some k_ ≠ (v181 : Value).ownBlock) (fun _ => False) rfl rfl ?aO ?aR (fun _ _ h => h) (fun _ h => h.elim) ?aF ?aB ?aS ?aL ?_
          (case aR => repeat (first | exact (Kd.V_reads' HO_170002.out).2.2 | (with_reducible refine Kd.C_alloc ?_ _) | (with_reducible refine Kd.C_drewN ?_ _) | (with_reducible refine Kd.C_drew ?_)))
          (case aB => exact (by repeat (first | (with_reducible first | exact HB.out | apply below_alloc | apply pw_below_drewN | apply below_drew1 | refine below_set ?_ GE169.out | refine below_set ?_ GE170.out) | exact HB.out)))
          (case aF => exact (fun k_ hk => ⟨(Nat.le_trans (below_size (by repeat (first | (with_reducible first | exact HB.out | apply below_alloc | apply pw_below_drewN | apply below_drew1 | refine below_set ?_ GE169.out | refine below_set ?_ GE170.out) | exact HB.out))) hk), Kd.fresh' (Kd.R_lt (Kd.pR HO182.out)) k_ hk⟩))
          (case aO => exact (Kd.pR (Kd.R_mono HO175.out (fun _ hk => ⟨hk.1.1, hk.2⟩))))
          (case aS => exact (below_size (by repeat (first | (with_reducible first | exact HB.out | apply below_alloc | apply pw_below_drewN | apply below_drew1 | refine below_set ?_ GE169.out | refine below_set ?_ GE170.out) | exact HB.out))))
          (case aL => have := LMc9.out; omega)
          intro v177 w18 ho hb hg hat
          rw [← Ny176.out] at ho
          have n0_ := Aside0.mk (Kd.N_afterv (ok := (fun k_ => (P0_2_ k_ ∨ w.heap.size ≤ k_) ∧ some k_ ≠ (v181 : Value).ownBlock ∧ k_ ≠ gb169 ∧ k_ ≠ gb170)) (Kd.pN (Kd.N_mono HO_6.out (fun _ hk => ⟨⟨hk.1.1.1, ⟨hk.1.2, ⟨hk.1.1.2.1, hk.1.1.2.2⟩⟩⟩, hk.2⟩))) hg hat)
          have n1_ := Aside0.mk (Kd.V_afterv (ok := (fun k_ => (P0_2_ k_ ∨ w.heap.size ≤ k_) ∧ some k_ ≠ (u6 : Value).ownBlock ∧ some k_ ≠ (v181 : Value).ownBlock ∧ k_ ≠ gb169 ∧ k_ ≠ gb170)) (Kd.pV (Kd.V_mono HO_170002.out (fun _ hk => ⟨⟨hk.1.1.1, ⟨hk.1.1.2.1, ⟨hk.1.2, ⟨hk.1.1.2.2.1, hk.1.1.2.2.2⟩⟩⟩⟩, hk.2⟩))) hg hat)
          have n2_ := Aside0.mk (blk_grown (g := gb169) (o := .cells #[.int .i64 x170000_1, .string x170001_1, .slice Ao12 x170002_1.length co12] 39 (0, 0)) (pB BK169.out) hg (Kd.R_ne HO175.out BK169.out (by decide)))
          have n3_ := Aside0.mk (blk_grown (g := gb170) (o := .cells #[.int .i64 0, .string (⟨#[]⟩ : ByteArray), .slice none 0 0] 39 (0, 0)) (pB BK170.out) hg (Kd.R_ne HO175.out BK170.out (by decide)))
          have n4_ := Aside0.mk (Kd.R_after (ok := (fun k_ => (w.heap.size ≤ k_))) (Kd.pR (Kd.R_mono HO182.out (fun _ hk => ⟨hk.1.1, hk.2⟩))) hg hat)
          have n5_ := Aside0.mk (hb)
          have n6_ := Aside0.mk (ho)
          clear HO_6
          clear HO_170002
          clear BK169
          clear BK170
          clear HO182
          clear HB
          clear HO175
          have HO_6 := n0_
          have HO_170002 := n1_
          have BK169 := n2_
          have BK170 := n3_
          have HO182 := n4_
          have HB := n5_
          have HO178 := n6_
          clear n0_ n1_ n2_ n3_ n4_ n5_ n6_
          clear ho hb hg hat
          refine hK.out _ _ ⟨(blk_cell BK169.out 0).trans rfl, (blk_cell BK169.out 1).trans rfl, (blk_cell BK169.out 2).trans rfl, ((HB.out.cell (World.block_lt_of_cell? w _ hw179_0)).trans (by first | exact hw179_0))⟩ (fun hHeld => ?_)
          clear hK K
          refine norm_ (a' := ?_) ?_ ?_
          rotate_left
          ·
           show Act.put _ (some 38) _ = _
           simp only [Act.put, List.setIfInBounds_toArray, List.set_cons_zero, List.set_cons_succ, i64_w, i32_w]
           rfl
          exact norm_ (by simp only [putAll, Act.put, List.setIfInBounds_toArray, List.set_cons_zero, List.set_cons_succ]) (hCont (v174, v177, v181) _ ⟨hHeld, (Kd.pR HO178.out), (Kd.pR HO182.out), (Kd.pV (Kd.V_mono HO_170002.out (fun _ hk => ⟨hk.1.1, ⟨hk.2, ⟨hk.1.2.2.1, ⟨hk.1.2.1, ⟨hk.1.2.2.2.1, hk.1.2.2.2.2⟩⟩⟩⟩⟩))), (Kd.pN (Kd.N_mono HO_6.out (fun _ hk => ⟨hk.1.1, ⟨hk.2, ⟨hk.1.2.1, ⟨hk.1.2.2.1, hk.1.2.2.2⟩⟩⟩⟩))), (pB BK169.out), (pB BK170.out), (by repeat (first | (with_reducible first | exact HB.out | apply below_alloc | apply pw_below_drewN | apply below_drew1 | refine below_set ?_ GE169.out | refine below_set ?_ GE170.out) | exact HB.out))⟩)
        rintro ⟨v174, v177, v181⟩ w19 ⟨hS_, h0_, h1_, h2_, h3_, h4_, h5_, h6_⟩
        have n0_ : Aside0 (Kd.R Kd.string 9 w19 w.heap.size (fun k_ => (w.heap.size ≤ k_) ∧ some k_ ≠ (v181 : Value).ownBlock) v177 y176) := ⟨h0_⟩
        have n1_ : Aside0 (Kd.R Kd.string 9 w19 w.heap.size (fun k_ => (w.heap.size ≤ k_) ∧ some k_ ≠ (v177 : Value).ownBlock) v181 y180) := ⟨h1_⟩
        have n2_ : Aside0 (Kd.V Kd.string 9 w19 w.heap.size (fun k_ => (P0_2_ k_ ∨ w.heap.size ≤ k_) ∧ some k_ ≠ (v177 : Value).ownBlock ∧ some k_ ≠ (v181 : Value).ownBlock ∧ some k_ ≠ (u6 : Value).ownBlock ∧ k_ ≠ gb169 ∧ k_ ≠ gb170) (.slice Ao12 x170002_1.length co12) x170002_1) := ⟨h2_⟩
        have n3_ : Aside0 (Kd.N k40 40 w19 w.heap.size (fun k_ => (P0_2_ k_ ∨ w.heap.size ≤ k_) ∧ some k_ ≠ (v177 : Value).ownBlock ∧ some k_ ≠ (v181 : Value).ownBlock ∧ k_ ≠ gb169 ∧ k_ ≠ gb170) u6 x6_1) := ⟨h3_⟩
        have n4_ : Aside0 (w19.heap[gb169]? = some (.cells #[.int .i64 x170000_1, .string x170001_1, .slice Ao12 x170002_1.length co12] 39 (0, 0))) := ⟨h4_⟩
        have n5_ : Aside0 (w19.heap[gb170]? = some (.cells #[.int .i64 0, .string (⟨#[]⟩ : ByteArray), .slice none 0 0] 39 (0, 0))) := ⟨h5_⟩
        have n6_ : Aside0 (Below w.heap.size w w19) := ⟨h6_⟩
        clear HO_6
        clear HO_170002
        clear BK169
        clear BK170
        clear HB
        clear h0_ h1_ h2_ h3_ h4_ h5_ h6_
        have HO178 := n0_
        have HO182 := n1_
        have HO_170002 := n2_
        have HO_6 := n3_
        have BK169 := n4_
        have BK170 := n5_
        have HB := n6_
        clear n0_ n1_ n2_ n3_ n4_ n5_ n6_
        have hHeld : w19.cell? ⟨gb169, 0, none⟩ = some (.int .i64 x170000_1) ∧ w19.cell? ⟨gb169, 1, none⟩ = some (.string x170001_1) ∧ w19.cell? ⟨gb169, 2, none⟩ = some (.slice Ao12 x170002_1.length co12) ∧ w19.cell? (ad171.add (x7_1).toNat) = some (.string (rdOf ByteArray.empty l1 x7_1)) := hS_
        obtain ⟨Ao21, co21, eo21⟩ := Kd.R_slice HO182.out
        (first | subst eo21 | (injection eo21 with f1_ f2_ f3_; have f4_ := f1_.symm; have f5_ := f3_.symm; clear f1_ f2_ f3_; subst f4_; subst f5_))
        refine norm_ (a' := ?_) ?_ ?_
        rotate_left
        ·
         simp only [putAll, Act.put, List.setIfInBounds_toArray, List.set_cons_zero, List.set_cons_succ]
         rfl
        refine one_ (i := 9) (N := some 44) #[true, true, true, true, true, true, true, true, true, true, false, false] rfl rfl (one_of HT_.out (by kernel_rfl)) (by decide) (fun K hK => ?_)
        refine Kd.R_append_rows_step Kd.string (w0 := w) w.heap.size (by rfl) (.tmp 38) (.tmp 43) 37 9 (.string ⟨#[]⟩) 16 rfl Try.underlying37 info9 rfl (by decide) (by omega) v177 y176 y180 _ _ _ (fun k_ => (w.heap.size ≤ k_) ∧ some k_ ≠ (.slice Ao21 y180.length co21 : Value).ownBlock) (fun _ => False) rfl rfl ?aO ?aR (fun _ _ h => h) (fun _ h => h.elim) ?aF ?aB ?aS ?aL ?_
        (case aR => repeat (first | exact (Kd.R_reads' HO182.out).2.2 | (with_reducible refine Kd.C_alloc ?_ _) | (with_reducible refine Kd.C_drewN ?_ _) | (with_reducible refine Kd.C_drew ?_)))
        (case aB => exact (by repeat (first | (with_reducible first | exact HB.out | apply below_alloc | apply pw_below_drewN | apply below_drew1 | refine below_set ?_ GE169.out | refine below_set ?_ GE170.out) | exact HB.out)))
        (case aF => exact (fun k_ hk => ⟨(Nat.le_trans (below_size (by repeat (first | (with_reducible first | exact HB.out | apply below_alloc | apply pw_below_drewN | apply below_drew1 | refine below_set ?_ GE169.out | refine below_set ?_ GE170.out) | exact HB.out))) hk), Kd.fresh' (Kd.R_lt (Kd.pR HO182.out)) k_ hk⟩))
        (case aO => exact (Kd.pR HO178.out))
        (case aS => exact (below_size (by repeat (first | (with_reducible first | exact HB.out | apply below_alloc | apply pw_below_drewN | apply below_drew1 | refine below_set ?_ GE169.out | refine below_set ?_ GE170.out) | exact HB.out))))
        (case aL => have := LMc10.out; omega)
        intro v184 w20 ho hb hg hat
        rw [← Ny183.out] at ho
        have n0_ := Aside0.mk (Kd.N_afterv (ok := (fun k_ => (P0_2_ k_ ∨ w.heap.size ≤ k_) ∧ some k_ ≠ (.slice Ao21 y180.length co21 : Value).ownBlock ∧ k_ ≠ gb169 ∧ k_ ≠ gb170)) (Kd.pN (Kd.N_mono HO_6.out (fun _ hk => ⟨⟨hk.1, ⟨hk.2.2.1, ⟨hk.2.2.2.1, hk.2.2.2.2⟩⟩⟩, hk.2.1⟩))) hg hat)
        have n1_ := Aside0.mk (Kd.V_afterv (ok := (fun k_ => (P0_2_ k_ ∨ w.heap.size ≤ k_) ∧ some k_ ≠ (u6 : Value).ownBlock ∧ some k_ ≠ (.slice Ao21 y180.length co21 : Value).ownBlock ∧ k_ ≠ gb169 ∧ k_ ≠ gb170)) (Kd.pV (Kd.V_mono HO_170002.out (fun _ hk => ⟨⟨hk.1, ⟨hk.2.2.2.1, ⟨hk.2.2.1, ⟨hk.2.2.2.2.1, hk.2.2.2.2.2⟩⟩⟩⟩, hk.2.1⟩))) hg hat)
        have n2_ := Aside0.mk (blk_grown (g := gb169) (o := .cells #[.int .i64 x170000_1, .string x170001_1, .slice Ao12 x170002_1.length co12] 39 (0, 0)) (pB BK169.out) hg (Kd.R_ne HO178.out BK169.out (by decide)))
        have n3_ := Aside0.mk (blk_grown (g := gb170) (o := .cells #[.int .i64 0, .string (⟨#[]⟩ : ByteArray), .slice none 0 0] 39 (0, 0)) (pB BK170.out) hg (Kd.R_ne HO178.out BK170.out (by decide)))
        have n4_ := Aside0.mk (Kd.R_after (ok := (fun k_ => (w.heap.size ≤ k_))) (Kd.pR HO182.out) hg hat)
        have n5_ := Aside0.mk (hb)
        have n6_ := Aside0.mk (ho)
        clear HO_6
        clear HO_170002
        clear BK169
        clear BK170
        clear HO182
        clear HB
        clear HO178
        have HO_6 := n0_
        have HO_170002 := n1_
        have BK169 := n2_
        have BK170 := n3_
        have HO182 := n4_
        have HB := n5_
        have HO185 := n6_
        clear n0_ n1_ n2_ n3_ n4_ n5_ n6_
        clear ho hb hg hat
        obtain ⟨Ao22, co22, eo22⟩ := Kd.R_slice HO185.out
        (first | subst eo22 | (injection eo22 with f1_ f2_ f3_; have f4_ := f1_.symm; have f5_ := f3_.symm; clear f1_ f2_ f3_; subst f4_; subst f5_))
        refine hK.out _ _ ⟨(blk_cell BK169.out 0).trans rfl, (blk_cell BK169.out 1).trans rfl, (blk_cell BK169.out 2).trans rfl, ((HB.out.cell (World.block_lt_of_cell? w _ hw179_0)).trans (by first | exact hw179_0))⟩ (fun hHeld => ?_)
        clear hK K
        refine norm_ (a' := ?_) ?_ ?_
        rotate_left
        ·
         show Act.put _ (some 44) _ = _
         simp only [Act.put, List.setIfInBounds_toArray, List.set_cons_zero, List.set_cons_succ, i64_w, i32_w]
         rfl
        refine pure_ (i := 10) (N := some 45) (v := ?_) (a' := ?_) #[true, true, true, true, true, true, true, true, true, true, true, false] rfl rfl (any_of HT_.out (by kernel_rfl)) (fun _ _ _ h => h) (Or.inl ⟨by rfl, ?_⟩) ?_ ?_
        rotate_left
        ·
         intro w'
         go_simp
         with_reducible rfl
        rotate_left
        ·
         simp only [Act.put, List.setIfInBounds_toArray, List.set_cons_zero, List.set_cons_succ, i64_w, i32_w]
         rfl
        refine last_ (i := 11) (N := none) #[true, true, true, true, true, true, true, true, true, true, true, true] rfl rfl (one_of HT_.out (by kernel_rfl)) (by decide) (fun K hK => ?_)
        have hs23 : w20.cell? ⟨gb169, 2, none⟩ = some (.slice Ao12 x170002_1.length co12) := (blk_cell BK169.out 2).trans rfl
        have hfs23 := blk_frozen BK169.out 2
        have hns23_1 := NB170_169.out
        have hms23_1 := NB169_170.out
        refine skip_ (w1 := ?_) (by rfl) rfl ?_ ?_
        rotate_left
        ·
         go_simp
         rfl
        refine hK.out _ _ ?_
        clear hK K
        refine done_ (done_of HT_.out (by kernel_rfl)) ?_
        try go_wp2
        go_roundg k1
        case measure => have := HK1.out; omega
        case rel => exact ⟨(x6_1), (wrap64 (x7_1 + 1)), (x170000_1), (x170001_1), (y183), (.slice Ao22 y183.length co22), (by first | rfl | (simp; done) | (simp [*]; done)), H', ⟨by have := HK1.out; omega⟩, ⟨by (with_reducible repeat (first | apply Kd.N_alloc | apply Kd.N_drewN | apply Kd.N_drew)); exact Kd.N_mono (Kd.N_far (p := ⟨gb169, 2, none⟩) (Kd.N_mono HO_6.out (fun k_ hk => (⟨hk, hk.1.2.2.1⟩ : _ ∧ k_ ≠ gb169))) (fun _ hk => hk.2) (.slice Ao22 y183.length co22)) (fun _ hk => ⟨hk.1.1.1, ⟨hk.1.1.2.2.1, hk.1.1.2.2.2⟩⟩)⟩, ⟨Kd.V_mono (Kd.R_V (Kd.pR (Kd.R_mono (Kd.R_far (p := ⟨gb169, 2, none⟩) (Kd.R_types (Kd.R_types (Kd.R_types (Kd.R_apart' HO185.out (Kd.N_typed HO_6.out) (by decide)) BK169.out (by decide)) BK170.out (by decide)) BK169.out (by decide)) (fun _ hk => hk.2) (.slice Ao22 y183.length co22)) (fun _ hk => (⟨hk.1.1.1.1.1, ⟨hk.1.1.1.2, ⟨hk.1.1.2, hk.1.2⟩⟩⟩ : _ ∧ (_ ∧ (_ ∧ _))))))) (fun k_ hk => by first | exact ⟨(.inr (hk.1)), hk.2⟩ | exact (.inr (hk)))⟩, ⟨by (with_reducible repeat (first | refine blk_drewN ?_ _ | refine blk_drew ?_ | refine blk_alloc ?_ _)); refine blk_put (cs := #[.int .i64 x170000_1, .string x170001_1, .slice Ao12 x170002_1.length co12]) ?_ 2 _ rfl; (with_reducible repeat (first | refine blk_drewN ?_ _ | refine blk_drew ?_ | refine blk_alloc ?_ _)); exact BK169.out⟩, ⟨by (with_reducible repeat (first | refine blk_drewN ?_ _ | refine blk_drew ?_ | refine blk_alloc ?_ _)); refine blk_far ?_ NB170_169.out _; (with_reducible repeat (first | refine blk_drewN ?_ _ | refine blk_drew ?_ | refine blk_alloc ?_ _)); exact BK170.out⟩, ⟨by repeat (first | (with_reducible first | exact HB.out | apply below_alloc | apply pw_below_drewN | apply below_drew1 | refine below_set ?_ GE169.out | refine below_set ?_ GE170.out) | exact HB.out)⟩⟩
       ·
        rw [if_neg c10] at H
        exact absurd H (by simp)
      ·
       rw [if_neg c9] at H
       exact absurd H (by simp)
     ·
      replace c8 := Bool.eq_false_iff.mpr c8
      subst c8
      have H1 : ((selvedgeref15_Flush.f x170000_1 x170001_1 x170002_1).bind fun bt186 => (if x6_1.length + bt186.2.2.2.length < 2932031007402 then ((some (([] : List ByteArray) : List ByteArray)).bind fun y198 => (if y198.length + bt186.2.2.1.length < 8796093022208 then ((some (y198 ++ bt186.2.2.1 : List ByteArray)).bind fun y201 => ((some (([rdOf ByteArray.empty l1 x7_1] : List ByteArray) : List ByteArray)).bind fun y205 => (if y201.length + y205.length < 8796093022208 then (selvedgeref15_Feed.l0 k1 l1 (x6_1 ++ bt186.2.2.2) (wrap64 (x7_1 + 1)) bt186.1 bt186.2.1 (y201 ++ y205)) else (none)))) else (none))) else (none))) = some (r1, r2, r3, r4) := by rw [if_neg (show ¬ (false = true) by decide)] at H; exact H
      clear H
      have H := H1
      clear H1
      replace H := Option.bind_eq_some_iff.mp H
      obtain ⟨⟨t186, t187, t188, t191⟩, A240, H⟩ := H
      replace H : (if x6_1.length + t191.length < 2932031007402 then ((some (([] : List ByteArray) : List ByteArray)).bind fun y198 => (if y198.length + t188.length < 8796093022208 then ((some (y198 ++ t188 : List ByteArray)).bind fun y201 => ((some (([rdOf ByteArray.empty l1 x7_1] : List ByteArray) : List ByteArray)).bind fun y205 => (if y201.length + y205.length < 8796093022208 then (selvedgeref15_Feed.l0 k1 l1 (x6_1 ++ t191) (wrap64 (x7_1 + 1)) t186 t187 (y201 ++ y205)) else (none)))) else (none))) else (none)) = some (r1, r2, r3, r4) := H
      have A24 := Aside0.mk A240
      clear A240
      by_cases c25 : x6_1.length + t191.length < 2932031007402
      ·
       rw [if_pos c25] at H
       have LMc25 := Aside0.mk c25
       clear c25
       obtain ⟨y195, hy195⟩ : ∃ y_ : List (S40), y_ = (x6_1 ++ t191) := ⟨_, rfl⟩
       replace H : ((some (([] : List ByteArray) : List ByteArray)).bind fun y198 => (if y198.length + t188.length < 8796093022208 then ((some (y198 ++ t188 : List ByteArray)).bind fun y201 => ((some (([rdOf ByteArray.empty l1 x7_1] : List ByteArray) : List ByteArray)).bind fun y205 => (if y201.length + y205.length < 8796093022208 then (selvedgeref15_Feed.l0 k1 l1 y195 (wrap64 (x7_1 + 1)) t186 t187 (y201 ++ y205)) else (none)))) else (none))) = some (r1, r2, r3, r4) := by first | (rw [hy195]; with_reducible exact H) | (have H2_ := (Option.bind_some _ _).symm.trans H; rw [hy195]; with_reducible exact H2_) | (have H2_ := (Option.bind_some _ _).symm.trans H; with_reducible exact H2_) | with_reducible exact H | (rw [hy195]; exact H) | exact H
       have Ny195 := Aside0.mk hy195
       clear hy195
       obtain ⟨y198, hy198⟩ : ∃ y_ : List ByteArray, y_ = (([] : List ByteArray)) := ⟨_, rfl⟩
       replace H : (if y198.length + t188.length < 8796093022208 then ((some (y198 ++ t188 : List ByteArray)).bind fun y201 => ((some (([rdOf ByteArray.empty l1 x7_1] : List ByteArray) : List ByteArray)).bind fun y205 => (if y201.length + y205.length < 8796093022208 then (selvedgeref15_Feed.l0 k1 l1 y195 (wrap64 (x7_1 + 1)) t186 t187 (y201 ++ y205)) else (none)))) else (none)) = some (r1, r2, r3, r4) := by first | (rw [hy198]; with_reducible exact H) | (have H2_ := (Option.bind_some _ _).symm.trans H; rw [hy198]; with_reducible exact H2_) | (have H2_ := (Option.bind_some _ _).symm.trans H; with_reducible exact H2_) | with_reducible exact H | (rw [hy198]; exact H) | exact H
       have Ny198 := Aside0.mk hy198
       clear hy198
       by_cases c26 : y198.length + t188.length < 8796093022208
       ·
        rw [if_pos c26] at H
        have LMc26 := Aside0.mk c26
        clear c26
        obtain ⟨y201, hy201⟩ : ∃ y_ : List ByteArray, y_ = (y198 ++ t188) := ⟨_, rfl⟩
        replace H : ((some (([rdOf ByteArray.empty l1 x7_1] : List ByteArray) : List ByteArray)).bind fun y205 => (if y201.length + y205.length < 8796093022208 then (selvedgeref15_Feed.l0 k1 l1 y195 (wrap64 (x7_1 + 1)) t186 t187 (y201 ++ y205)) else (none))) = some (r1, r2, r3, r4) := by first | (rw [hy201]; with_reducible exact H) | (have H2_ := (Option.bind_some _ _).symm.trans H; rw [hy201]; with_reducible exact H2_) | (have H2_ := (Option.bind_some _ _).symm.trans H; with_reducible exact H2_) | with_reducible exact H | (rw [hy201]; exact H) | exact H
        have Ny201 := Aside0.mk hy201
        clear hy201
        obtain ⟨y205, hy205⟩ : ∃ y_ : List ByteArray, y_ = (([rdOf ByteArray.empty l1 x7_1] : List ByteArray)) := ⟨_, rfl⟩
        replace H : (if y201.length + y205.length < 8796093022208 then (selvedgeref15_Feed.l0 k1 l1 y195 (wrap64 (x7_1 + 1)) t186 t187 (y201 ++ y205)) else (none)) = some (r1, r2, r3, r4) := by first | (rw [hy205]; with_reducible exact H) | (have H2_ := (Option.bind_some _ _).symm.trans H; rw [hy205]; with_reducible exact H2_) | (have H2_ := (Option.bind_some _ _).symm.trans H; with_reducible exact H2_) | with_reducible exact H | (rw [hy205]; exact H) | exact H
        have Ny205 := Aside0.mk hy205
        clear hy205
        by_cases c27 : y201.length + y205.length < 8796093022208
        ·
         rw [if_pos c27] at H
         have LMc27 := Aside0.mk c27
         clear c27
         obtain ⟨y208, hy208⟩ : ∃ y_ : List ByteArray, y_ = (y201 ++ y205) := ⟨_, rfl⟩
         replace H : (selvedgeref15_Feed.l0 k1 l1 y195 (wrap64 (x7_1 + 1)) t186 t187 y208) = some (r1, r2, r3, r4) := by first | (rw [hy208]; with_reducible exact H) | (have H2_ := (Option.bind_some _ _).symm.trans H; rw [hy208]; with_reducible exact H2_) | (have H2_ := (Option.bind_some _ _).symm.trans H; with_reducible exact H2_) | with_reducible exact H | (rw [hy208]; exact H) | exact H
         have Ny208 := Aside0.mk hy208
         clear hy208
         have H' := Aside0.mk H
         clear H
         try go_wp2
         have n0_ := Aside0.mk (Kd.N_drew HO_6.out)
         have n1_ := Aside0.mk (Kd.V_drew HO_170002.out)
         have n2_ := Aside0.mk (blk_drew BK169.out)
         have n3_ := Aside0.mk (blk_drew BK170.out)
         have n4_ := Aside0.mk (below_drew1 HB.out)
         clear HO_6
         clear HO_170002
         clear BK169
         clear BK170
         clear HB
         have HO_6 := n0_
         have HO_170002 := n1_
         have BK169 := n2_
         have BK170 := n3_
         have HB := n4_
         clear n0_ n1_ n2_ n3_ n4_
         have p171 : 0 ≤ (x7_1 : Int) := of_decide_eq_true (by first | (with_reducible assumption) | assumption)
         have q171 : x7_1 < (l1.length : Int) := of_decide_eq_true (by first | (with_reducible assumption) | assumption)
         obtain ⟨ad171, e171, hx171_0⟩ := Kd.at_string HR1.out x7_1 p171 q171
         have hw171_0 := hx171_0
         cases e171
         replace hx171_0 := (HB.out.cell (World.block_lt_of_cell? w _ hx171_0)).trans hx171_0
         replace p171 := eq_true p171
         replace q171 := eq_true q171
         obtain ⟨Ao29, co29, eo29⟩ := Kd.V_slice HO_170002.out
         (first | subst eo29 | (injection eo29 with f1_ f2_ f3_; have f4_ := f1_.symm; have f5_ := f3_.symm; clear f1_ f2_ f3_; subst f4_; subst f5_))
         refine start_ (n := 8) (S := fun w' => w'.cell? ⟨gb169, 0, none⟩ = some (.int .i64 x170000_1) ∧ w'.cell? ⟨gb169, 1, none⟩ = some (.string x170001_1) ∧ w'.cell? ⟨gb169, 2, none⟩ = some (.slice Ao29 x170002_1.length co29) ∧ w'.cell? (ad171.add (x7_1).toNat) = some (.string (rdOf ByteArray.empty l1 x7_1))) (ds := []) #[false, false, false, false, false, false, false, false] (by kernel_rfl) rfl rfl ⟨(blk_cell BK169.out 0).trans rfl, (blk_cell BK169.out 1).trans rfl, (blk_cell BK169.out 2).trans rfl, ((HB.out.cell (World.block_lt_of_cell? w _ hw171_0)).trans (by first | exact hw171_0))⟩ (fun hHeld => ?_); refine with_tabW selvedgeref15_Feed.tab5 selvedgeref15_Feed.bits5 (fun HT_ HW_ => ?_)
         generalize wr.drew = w28 at HO_6 HO_170002 BK169 BK170 HB hx171_0 hHeld ⊢
         refine pure_ (i := 0) (N := some 17) (v := ?_) (a' := ?_) #[true, false, false, false, false, false, false, false] rfl rfl (any_of HT_.out (by kernel_rfl)) (fun _ _ _ h => h) (Or.inl ⟨by rfl, ?_⟩) ?_ ?_
         rotate_left
         ·
          intro w'
          go_simp
          with_reducible rfl
         rotate_left
         ·
          simp only [Act.put, List.setIfInBounds_toArray, List.set_cons_zero, List.set_cons_succ, i64_w, i32_w]
          rfl
         refine pure_ (i := 2) (N := some 19) (v := ?_) (a' := ?_) #[true, false, true, false, false, false, false, false] rfl rfl (any_of HT_.out (by kernel_rfl)) (fun _ _ _ h => h) (Or.inl ⟨by rfl, ?_⟩) ?_ ?_
         rotate_left
         ·
          intro w'
          go_simp
          with_reducible rfl
         rotate_left
         ·
          simp only [Act.put, List.setIfInBounds_toArray, List.set_cons_zero, List.set_cons_succ, i64_w, i32_w]
          rfl
         refine pure_ (i := 3) (N := some 20) (v := ?_) (a' := ?_) #[true, false, true, true, false, false, false, false] rfl rfl (any_of HT_.out (by kernel_rfl)) (fun _ _ _ h => h) (Or.inl ⟨by rfl, ?_⟩) ?_ ?_
         rotate_left
         ·
          intro w'
          go_simp
          with_reducible rfl
         rotate_left
         ·
          simp only [Act.put, List.setIfInBounds_toArray, List.set_cons_zero, List.set_cons_succ, i64_w, i32_w]
          rfl
         refine pure_ (i := 4) (N := some 21) (v := ?_) (a' := ?_) #[true, false, true, true, true, false, false, false] rfl rfl (any_of HT_.out (by kernel_rfl)) (fun _ _ _ h => h) (Or.inl ⟨by rfl, ?_⟩) ?_ ?_
         rotate_left
         ·
          intro w'
          go_simp
          with_reducible rfl
         rotate_left
         ·
          simp only [Act.put, List.setIfInBounds_toArray, List.set_cons_zero, List.set_cons_succ, i64_w, i32_w]
          rfl
         refine take_ (i := 1) (N := some 18) (v := ?_) (a' := ?_) #[true, true, true, true, true, false, false, false] rfl rfl (take_ofW HT_.out HW_.out (by kernel_rfl)) (fun _ _ _ h => h) (Or.inl ⟨by rfl, ?_⟩) hHeld ?_ ?_
         rotate_left
         ·
          rintro w' ⟨s0, s1, s2, s3⟩
          go_simp
          with_reducible rfl
         rotate_left
         ·
          simp only [Act.put, List.setIfInBounds_toArray, List.set_cons_zero, List.set_cons_succ, i64_w, i32_w]
          rfl
         refine take_ (i := 5) (N := some 22) (v := ?_) (a' := ?_) #[true, true, true, true, true, true, false, false] rfl rfl (take_ofW HT_.out HW_.out (by kernel_rfl)) (fun _ _ _ h => h) (Or.inl ⟨by rfl, ?_⟩) hHeld ?_ ?_
         rotate_left
         ·
          rintro w' ⟨s0, s1, s2, s3⟩
          go_simp
          with_reducible rfl
         rotate_left
         ·
          simp only [Act.put, List.setIfInBounds_toArray, List.set_cons_zero, List.set_cons_succ, i64_w, i32_w]
          rfl
         refine one_ (i := 6) (N := some 23) #[true, true, true, true, true, true, true, false] rfl rfl (one_of HT_.out (by kernel_rfl)) (by decide) (fun K hK => ?_)
         refine goes_ Try.func47 (by kernel_rfl) rfl #[.slice Ao29 x170002_1.length co29, .string (rdOf ByteArray.empty l1 x7_1)] (by rfl) rfl rfl (by (try simp only [List.map_toArray, List.map_cons, List.map_nil]); first | done | rfl | (simp only [List.length_drop, List.length_take]; rfl)) ?_
         with_reducible refine (selvedgeref15_Fits.calls k1 _ _ x170002_1 (rdOf ByteArray.empty l1 x7_1) false _ ?side1 ?side2 A7.out).mono ?_
         (case side1 => repeat (first | exact (Kd.V_reads' HO_170002.out).2.2 | (with_reducible refine Kd.C_alloc ?_ _) | (with_reducible refine Kd.C_drewN ?_ _) | (with_reducible refine Kd.C_drew ?_)))
         (case side2 => exact (Kd.V_reads' HO_170002.out).2.1)
         rintro e w' ⟨rfl, ⟨nd, rfl⟩⟩
         refine ⟨_, rfl, ?_⟩
         refine hK.out _ _ ⟨(blk_cell BK169.out 0).trans rfl, (blk_cell BK169.out 1).trans rfl, (blk_cell BK169.out 2).trans rfl, ((HB.out.cell (World.block_lt_of_cell? w _ hw171_0)).trans (by first | exact hw171_0))⟩ (fun hHeld => ?_)
         clear hK K
         refine norm_ (a' := ?_) ?_ ?_
         rotate_left
         ·
          show Act.put _ (some 23) _ = _
          simp only [Act.put, List.setIfInBounds_toArray, List.set_cons_zero, List.set_cons_succ, i64_w, i32_w]
          rfl
         refine pure_ (i := 7) (N := some 8) (v := ?_) (a' := ?_) #[true, true, true, true, true, true, true, true] rfl rfl (any_of HT_.out (by kernel_rfl)) (fun _ _ _ h => h) (Or.inl ⟨by rfl, ?_⟩) ?_ ?_
         rotate_left
         ·
          intro w'
          go_simp
          with_reducible rfl
         rotate_left
         ·
          simp only [Act.put, List.setIfInBounds_toArray, List.set_cons_zero, List.set_cons_succ, i64_w, i32_w]
          rfl
         refine done_ (done_of HT_.out (by kernel_rfl)) ?_
         have hnb30 := NB169_170.out
         have hnc30 := NB170_169.out
         have hcz31_0 : w28.cell? ⟨gb169, 0, none⟩ = some (.int .i64 x170000_1) := (blk_cell BK169.out 0).trans rfl
         have hcz31_1 : w28.cell? ⟨gb169, 1, none⟩ = some (.string x170001_1) := (blk_cell BK169.out 1).trans rfl
         have hcz31_2 : w28.cell? ⟨gb169, 2, none⟩ = some (.slice Ao29 x170002_1.length co29) := (blk_cell BK169.out 2).trans rfl
         have hfz31_0 := blk_frozen BK169.out 0
         have hfz31_1 := blk_frozen BK169.out 1
         have hfz31_2 := blk_frozen BK169.out 2
         try go_wp2_with (first | ((with_reducible refine gate_callee (f := 41) rfl ?_); refine goesL_ (some 28) rfl rfl Try.func41 (by kernel_rfl) rfl #[.agg #[.int .i64 x170000_1, .string x170001_1, .slice Ao29 x170002_1.length co29]] rfl (by (try simp only [List.map_toArray, List.map_cons, List.map_nil]); first | done | rfl | (simp only [List.length_drop, List.length_take]; rfl)) ?_; (with_reducible refine (selvedgeref15_Flush.calls x170000_1 x170001_1 (fun k_ => ((P0_2_ k_ ∨ w.heap.size ≤ k_) ∧ (some k_ ≠ (u6 : Value).ownBlock ∧ (k_ ≠ gb169 ∧ k_ ≠ gb170)))) _ _ x170002_1 t186 t187 t188 t191 _ ?side1 A24.out).mono ?_); (case side1 => exact HO_170002.out); rintro e w32 ⟨v189, v192, rfl, ho0, ho1, hb⟩; refine ⟨_, rfl, ?_⟩; have n0_ := Aside0.mk (Kd.N_below (Kd.pN HO_6.out) hb); have n1_ := Aside0.mk (Kd.V_below (Kd.pV HO_170002.out) hb); have n2_ := Aside0.mk (Kd.V_lower (Kd.V_mono (ok' := fun k_ => (P0_2_ k_ ∨ w.heap.size ≤ k_) ∧ some k_ ≠ (u6 : Value).ownBlock ∧ k_ ≠ gb169 ∧ k_ ≠ gb170) ho0 (fun k_ hk_ => ⟨Or.elim hk_ (fun hs_ => hs_.1) (fun hn_ => (.inr (Nat.le_trans (below_size (by repeat (first | (with_reducible first | exact HB.out | apply below_alloc | apply pw_below_drewN | apply below_drew1 | refine below_set ?_ GE169.out | refine below_set ?_ GE170.out) | exact HB.out))) hn_))), Or.elim hk_ (fun hs_ => hs_.2.1) (fun hn_ => (Kd.fresh' (Kd.N_lt (Kd.pN HO_6.out)) k_ hn_)), Or.elim hk_ (fun hs_ => hs_.2.2.1) (fun hn_ => (Kd.freshB (g := gb169) (o := .cells #[.int .i64 x170000_1, .string x170001_1, .slice Ao29 x170002_1.length co29] 39 (0, 0)) (pB BK169.out) k_ hn_)), Or.elim hk_ (fun hs_ => hs_.2.2.2) (fun hn_ => (Kd.freshB (g := gb170) (o := .cells #[.int .i64 0, .string (⟨#[]⟩ : ByteArray), .slice none 0 0] 39 (0, 0)) (pB BK170.out) k_ hn_))⟩)) (below_size (by repeat (first | (with_reducible first | exact HB.out | apply below_alloc | apply pw_below_drewN | apply below_drew1 | refine below_set ?_ GE169.out | refine below_set ?_ GE170.out) | exact HB.out)))); have n3_ := Aside0.mk (Kd.V_lower (Kd.V_mono (ok' := fun k_ => (P0_2_ k_ ∨ w.heap.size ≤ k_) ∧ some k_ ≠ (u6 : Value).ownBlock ∧ k_ ≠ gb169 ∧ k_ ≠ gb170) ho1 (fun k_ hk_ => ⟨Or.elim hk_ (fun hs_ => hs_.1) (fun hn_ => (.inr (Nat.le_trans (below_size (by repeat (first | (with_reducible first | exact HB.out | apply below_alloc | apply pw_below_drewN | apply below_drew1 | refine below_set ?_ GE169.out | refine below_set ?_ GE170.out) | exact HB.out))) hn_))), Or.elim hk_ (fun hs_ => hs_.2.1) (fun hn_ => (Kd.fresh' (Kd.N_lt (Kd.pN HO_6.out)) k_ hn_)), Or.elim hk_ (fun hs_ => hs_.2.2.1) (fun hn_ => (Kd.freshB (g := gb169) (o := .cells #[.int .i64 x170000_1, .string x170001_1, .slice Ao29 x170002_1.length co29] 39 (0, 0)) (pB BK169.out) k_ hn_)), Or.elim hk_ (fun hs_ => hs_.2.2.2) (fun hn_ => (Kd.freshB (g := gb170) (o := .cells #[.int .i64 0, .string (⟨#[]⟩ : ByteArray), .slice none 0 0] 39 (0, 0)) (pB BK170.out) k_ hn_))⟩)) (below_size (by repeat (first | (with_reducible first | exact HB.out | apply below_alloc | apply pw_below_drewN | apply below_drew1 | refine below_set ?_ GE169.out | refine below_set ?_ GE170.out) | exact HB.out)))); have n4_ := Aside0.mk (blk_below (g := gb169) (o := .cells #[.int .i64 x170000_1, .string x170001_1, .slice Ao29 x170002_1.length co29] 39 (0, 0)) (pB BK169.out) hb); have n5_ := Aside0.mk (blk_below (g := gb170) (o := .cells #[.int .i64 0, .string (⟨#[]⟩ : ByteArray), .slice none 0 0] 39 (0, 0)) (pB BK170.out) hb); have n6_ := Aside0.mk (below_step (by repeat (first | (with_reducible first | exact HB.out | apply below_alloc | apply pw_below_drewN | apply below_drew1 | refine below_set ?_ GE169.out | refine below_set ?_ GE170.out) | exact HB.out)) hb); clear HO_6; clear HO_170002; clear BK169; clear BK170; clear HB; have HO_6 := n0_; have HO_170002 := n1_; have HO190 := n2_; have HO193 := n3_; have BK169 := n4_; have BK170 := n5_; have HB := n6_; clear n0_ n1_ n2_ n3_ n4_ n5_ n6_; (try clear hb); (try clear hb2); (try clear hk); (try clear hi); (try clear ho0); (try clear ho1)) | ((with_reducible refine gate_dst (N := 9) rfl ?_); refine box_event ?hg (N := 9) ?hd (cs := #[.int .i64 0, .string (⟨#[]⟩ : ByteArray), .slice none 0 0]) (t := 39) ?hr ?_; (case hd => rfl); (case hg => rfl); (case hr => first | (go_simp; done) | (go_simp; rfl)); intro gb194 hg w33 hbox hb; have n0_ := Aside0.mk (Kd.N_below (Kd.N_elderB (Kd.pN HO_6.out) gb194 (Nat.le_of_eq hg.symm)) hb); have n1_ := Aside0.mk (Kd.V_below (Kd.V_elderB (Kd.pV HO_170002.out) gb194 (Nat.le_of_eq hg.symm)) hb); have n2_ := Aside0.mk (Kd.V_below (Kd.V_elderB (Kd.pV HO190.out) gb194 (Nat.le_of_eq hg.symm)) hb); have n3_ := Aside0.mk (Kd.V_below (Kd.V_elderB (Kd.pV HO193.out) gb194 (Nat.le_of_eq hg.symm)) hb); have n4_ := Aside0.mk (blk_below (g := gb169) (o := .cells #[.int .i64 x170000_1, .string x170001_1, .slice Ao29 x170002_1.length co29] 39 (0, 0)) (pB BK169.out) hb); have n5_ := Aside0.mk (blk_below (g := gb170) (o := .cells #[.int .i64 0, .string (⟨#[]⟩ : ByteArray), .slice none 0 0] 39 (0, 0)) (pB BK170.out) hb); have n6_ := Aside0.mk (below_step (by repeat (first | (with_reducible first | exact HB.out | apply below_alloc | apply pw_below_drewN | apply below_drew1 | refine below_set ?_ GE169.out | refine below_set ?_ GE170.out) | exact HB.out)) hb); have n7_ := Aside0.mk (hbox); have n8_ := Aside0.mk ((by rw [hg]; exact (below_size (by repeat (first | (with_reducible first | exact HB.out | apply below_alloc | apply pw_below_drewN | apply below_drew1 | refine below_set ?_ GE169.out | refine below_set ?_ GE170.out) | exact HB.out))) : w.heap.size ≤ gb194)); have n9_ := Aside0.mk ((by rw [hg]; exact (below_size (by repeat (first | (with_reducible first | exact HB.out | apply below_alloc | apply pw_below_drewN | apply below_drew1 | refine below_set ?_ GE169.out | refine below_set ?_ GE170.out) | exact HB.out))) : w.heap.size ≤ gb194)); have n10_ := Aside0.mk ((by rw [hg]; exact Nat.ne_of_lt (blk_lt (g := gb169) (o := .cells #[.int .i64 x170000_1, .string x170001_1, .slice Ao29 x170002_1.length co29] 39 (0, 0)) (pB BK169.out)) : gb169 ≠ gb194)); have n11_ := Aside0.mk ((by rw [hg]; exact Nat.ne_of_gt (blk_lt (g := gb169) (o := .cells #[.int .i64 x170000_1, .string x170001_1, .slice Ao29 x170002_1.length co29] 39 (0, 0)) (pB BK169.out)) : gb194 ≠ gb169)); have n12_ := Aside0.mk ((by rw [hg]; exact Nat.ne_of_lt (blk_lt (g := gb170) (o := .cells #[.int .i64 0, .string (⟨#[]⟩ : ByteArray), .slice none 0 0] 39 (0, 0)) (pB BK170.out)) : gb170 ≠ gb194)); have n13_ := Aside0.mk ((by rw [hg]; exact Nat.ne_of_gt (blk_lt (g := gb170) (o := .cells #[.int .i64 0, .string (⟨#[]⟩ : ByteArray), .slice none 0 0] 39 (0, 0)) (pB BK170.out)) : gb194 ≠ gb170)); clear HO_6; clear HO_170002; clear HO190; clear HO193; clear BK169; clear BK170; clear HB; have HO_6 := n0_; have HO_170002 := n1_; have HO190 := n2_; have HO193 := n3_; have BK169 := n4_; have BK170 := n5_; have HB := n6_; have BK194 := n7_; have GW194 := n8_; have GE194 := n9_; have NB169_194 := n10_; have NB194_169 := n11_; have NB170_194 := n12_; have NB194_170 := n13_; clear n0_ n1_ n2_ n3_ n4_ n5_ n6_ n7_ n8_ n9_ n10_ n11_ n12_ n13_; clear hb hbox hg; have hnb34 := NB194_169.out; have hnc34 := NB169_194.out; have hnb35 := NB194_170.out; have hnc35 := NB170_194.out; have hcz36_0 : w33.cell? ⟨gb194, 0, none⟩ = some (.int .i64 0) := (blk_cell BK194.out 0).trans rfl; have hcz36_1 : w33.cell? ⟨gb194, 1, none⟩ = some (.string (⟨#[]⟩ : ByteArray)) := (blk_cell BK194.out 1).trans rfl; have hcz36_2 : w33.cell? ⟨gb194, 2, none⟩ = some (.slice none 0 0) := (blk_cell BK194.out 2).trans rfl; have hfz36_0 := blk_frozen BK194.out 0; have hfz36_1 := blk_frozen BK194.out 1; have hfz36_2 := blk_frozen BK194.out 2; obtain ⟨Ao37, co37, eo37⟩ := Kd.V_slice HO190.out; subst eo37; have hcz38_0 : w33.cell? ⟨gb169, 0, none⟩ = some (.int .i64 x170000_1) := (blk_cell BK169.out 0).trans rfl; have hcz38_1 : w33.cell? ⟨gb169, 1, none⟩ = some (.string x170001_1) := (blk_cell BK169.out 1).trans rfl; have hcz38_2 : w33.cell? ⟨gb169, 2, none⟩ = some (.slice Ao29 x170002_1.length co29) := (blk_cell BK169.out 2).trans rfl; have hfz38_0 := blk_frozen BK169.out 0; have hfz38_1 := blk_frozen BK169.out 1; have hfz38_2 := blk_frozen BK169.out 2; obtain ⟨Ao40, co40, eo40⟩ := Kd.V_slice HO193.out; subst eo40) | ((with_reducible refine gate_builtin (b := .append) (xs := #[.tmp 32, .tmp 33]) rfl ?_); at_builtin; refine Kd.N_append_rows k40 (w0 := w) w.heap.size rfl (.tmp 32) (.tmp 33) 43 40 (.agg #[(.int .i64 0), (.string ⟨#[]⟩), (.slice none 0 0)]) 48 rfl Try.underlying43 info40 rfl (by decide) (by omega) u6 x6_1 t191 _ _ _ (fun k_ => (P0_2_ k_ ∨ w.heap.size ≤ k_) ∧ k_ ≠ gb169 ∧ k_ ≠ gb170 ∧ k_ ≠ gb194) (fun k_ => ((fun k_ => (P0_2_ k_ ∨ w.heap.size ≤ k_) ∧ k_ ≠ gb169 ∧ k_ ≠ gb170 ∧ k_ ≠ gb194)) k_ ∧ some k_ ≠ (u6 : Value).ownBlock) rfl rfl ?aO ?aR (fun _ hk => hk) ?aF ?aB ?aS ?aL ?_; (case aR => exact (by skip; exact Kd.V_F (Kd.V_mono (ok' := (fun k_ => ((fun k_ => (P0_2_ k_ ∨ w.heap.size ≤ k_) ∧ k_ ≠ gb169 ∧ k_ ≠ gb170 ∧ k_ ≠ gb194)) k_ ∧ some k_ ≠ (u6 : Value).ownBlock)) ((Kd.V_far (p := ⟨gb169, 2, none⟩) (Kd.V_far (p := ⟨gb169, 1, none⟩) (Kd.V_far (p := ⟨gb169, 0, none⟩) (Kd.V_far (p := ⟨gb194, 2, none⟩) (Kd.V_far (p := ⟨gb194, 1, none⟩) (Kd.V_far (p := ⟨gb194, 0, none⟩) (Kd.V_mono (Kd.V_mono HO193.out (fun k_ hk => (⟨hk, hk.2⟩ : _ ∧ k_ ≠ gb194))) (fun k_ hk => (⟨hk, hk.1.1.2.2.1⟩ : _ ∧ k_ ≠ gb169))) (fun _ hk => hk.1.2) (.int .i64 t186)) (fun _ hk => hk.1.2) (.string t187)) (fun _ hk => hk.1.2) (.slice Ao37 t188.length co37)) (fun _ hk => hk.2) (.int .i64 t186)) (fun _ hk => hk.2) (.string t187)) (fun _ hk => hk.2) (.slice Ao37 t188.length co37))) (fun k_ hk => ⟨⟨hk.1.1.1.1, ⟨hk.1.1.1.2.2.1, ⟨hk.1.1.1.2.2.2, hk.1.1.2⟩⟩⟩, hk.1.1.1.2.1⟩)))); (case aB => exact (by repeat (first | (with_reducible first | exact HB.out | apply below_alloc | apply pw_below_drewN | apply below_drew1 | refine below_set ?_ GE169.out | refine below_set ?_ GE170.out | refine below_set ?_ GE194.out) | exact HB.out))); (case aF => exact (fun k_ hk => ⟨(.inr (Nat.le_trans (below_size (by repeat (first | (with_reducible first | exact HB.out | apply below_alloc | apply pw_below_drewN | apply below_drew1 | refine below_set ?_ GE169.out | refine below_set ?_ GE170.out | refine below_set ?_ GE194.out) | exact HB.out))) hk)), Kd.freshB (g := gb169) (o := .cells #[.int .i64 t186, .string t187, .slice Ao37 t188.length co37] 39 (0, 0)) (by (with_reducible repeat (first | refine blk_drewN ?_ _ | refine blk_drew ?_ | refine blk_alloc ?_ _)); refine blk_put (cs := #[.int .i64 t186, .string t187, .slice Ao29 x170002_1.length co29]) ?_ 2 _ rfl; (with_reducible repeat (first | refine blk_drewN ?_ _ | refine blk_drew ?_ | refine blk_alloc ?_ _)); refine blk_put (cs := #[.int .i64 t186, .string x170001_1, .slice Ao29 x170002_1.length co29]) ?_ 1 _ rfl; (with_reducible repeat (first | refine blk_drewN ?_ _ | refine blk_drew ?_ | refine blk_alloc ?_ _)); refine blk_put (cs := #[.int .i64 x170000_1, .string x170001_1, .slice Ao29 x170002_1.length co29]) ?_ 0 _ rfl; (with_reducible repeat (first | refine blk_drewN ?_ _ | refine blk_drew ?_ | refine blk_alloc ?_ _)); refine blk_far ?_ NB169_194.out _; (with_reducible repeat (first | refine blk_drewN ?_ _ | refine blk_drew ?_ | refine blk_alloc ?_ _)); refine blk_far ?_ NB169_194.out _; (with_reducible repeat (first | refine blk_drewN ?_ _ | refine blk_drew ?_ | refine blk_alloc ?_ _)); refine blk_far ?_ NB169_194.out _; (with_reducible repeat (first | refine blk_drewN ?_ _ | refine blk_drew ?_ | refine blk_alloc ?_ _)); exact BK169.out) k_ hk, Kd.freshB (g := gb170) (o := .cells #[.int .i64 0, .string (⟨#[]⟩ : ByteArray), .slice none 0 0] 39 (0, 0)) (by (with_reducible repeat (first | refine blk_drewN ?_ _ | refine blk_drew ?_ | refine blk_alloc ?_ _)); refine blk_far ?_ NB170_169.out _; (with_reducible repeat (first | refine blk_drewN ?_ _ | refine blk_drew ?_ | refine blk_alloc ?_ _)); refine blk_far ?_ NB170_169.out _; (with_reducible repeat (first | refine blk_drewN ?_ _ | refine blk_drew ?_ | refine blk_alloc ?_ _)); refine blk_far ?_ NB170_169.out _; (with_reducible repeat (first | refine blk_drewN ?_ _ | refine blk_drew ?_ | refine blk_alloc ?_ _)); refine blk_far ?_ NB170_194.out _; (with_reducible repeat (first | refine blk_drewN ?_ _ | refine blk_drew ?_ | refine blk_alloc ?_ _)); refine blk_far ?_ NB170_194.out _; (with_reducible repeat (first | refine blk_drewN ?_ _ | refine blk_drew ?_ | refine blk_alloc ?_ _)); refine blk_far ?_ NB170_194.out _; (with_reducible repeat (first | refine blk_drewN ?_ _ | refine blk_drew ?_ | refine blk_alloc ?_ _)); exact BK170.out) k_ hk, Kd.freshB (g := gb194) (o := .cells #[.int .i64 t186, .string t187, .slice Ao37 t188.length co37] 39 (0, 0)) (by (with_reducible repeat (first | refine blk_drewN ?_ _ | refine blk_drew ?_ | refine blk_alloc ?_ _)); refine blk_far ?_ NB194_169.out _; (with_reducible repeat (first | refine blk_drewN ?_ _ | refine blk_drew ?_ | refine blk_alloc ?_ _)); refine blk_far ?_ NB194_169.out _; (with_reducible repeat (first | refine blk_drewN ?_ _ | refine blk_drew ?_ | refine blk_alloc ?_ _)); refine blk_far ?_ NB194_169.out _; (with_reducible repeat (first | refine blk_drewN ?_ _ | refine blk_drew ?_ | refine blk_alloc ?_ _)); refine blk_put (cs := #[.int .i64 t186, .string t187, .slice none 0 0]) ?_ 2 _ rfl; (with_reducible repeat (first | refine blk_drewN ?_ _ | refine blk_drew ?_ | refine blk_alloc ?_ _)); refine blk_put (cs := #[.int .i64 t186, .string (⟨#[]⟩ : ByteArray), .slice none 0 0]) ?_ 1 _ rfl; (with_reducible repeat (first | refine blk_drewN ?_ _ | refine blk_drew ?_ | refine blk_alloc ?_ _)); refine blk_put (cs := #[.int .i64 0, .string (⟨#[]⟩ : ByteArray), .slice none 0 0]) ?_ 0 _ rfl; (with_reducible repeat (first | refine blk_drewN ?_ _ | refine blk_drew ?_ | refine blk_alloc ?_ _)); exact BK194.out) k_ hk⟩)); (case aO => exact (Kd.pN (Kd.N_mono (Kd.N_far (p := ⟨gb169, 2, none⟩) (Kd.N_far (p := ⟨gb169, 1, none⟩) (Kd.N_far (p := ⟨gb169, 0, none⟩) (Kd.N_far (p := ⟨gb194, 2, none⟩) (Kd.N_far (p := ⟨gb194, 1, none⟩) (Kd.N_far (p := ⟨gb194, 0, none⟩) (Kd.N_mono (Kd.N_mono HO_6.out (fun k_ hk => (⟨hk, hk.2⟩ : _ ∧ k_ ≠ gb194))) (fun k_ hk => (⟨hk, hk.1.1.2.1⟩ : _ ∧ k_ ≠ gb169))) (fun _ hk => hk.1.2) (.int .i64 t186)) (fun _ hk => hk.1.2) (.string t187)) (fun _ hk => hk.1.2) (.slice Ao37 t188.length co37)) (fun _ hk => hk.2) (.int .i64 t186)) (fun _ hk => hk.2) (.string t187)) (fun _ hk => hk.2) (.slice Ao37 t188.length co37)) (fun _ hk => ⟨hk.1.1.1.1, ⟨hk.1.1.1.2.1, ⟨hk.1.1.1.2.2, hk.1.1.2⟩⟩⟩)))); (case aS => exact (below_size (by repeat (first | (with_reducible first | exact HB.out | apply below_alloc | apply pw_below_drewN | apply below_drew1 | refine below_set ?_ GE169.out | refine below_set ?_ GE170.out | refine below_set ?_ GE194.out) | exact HB.out)))); (case aL => have := LMc25.out; omega); intro v196 w39 ho hb hg hat; rw [← Ny195.out] at ho; have n0_ := Aside0.mk (Kd.V_afterv (ok := (fun k_ => (P0_2_ k_ ∨ w.heap.size ≤ k_) ∧ k_ ≠ gb169 ∧ k_ ≠ gb170 ∧ k_ ≠ gb194)) (Kd.pV (Kd.V_mono (Kd.V_far (p := ⟨gb169, 2, none⟩) (Kd.V_far (p := ⟨gb169, 1, none⟩) (Kd.V_far (p := ⟨gb169, 0, none⟩) (Kd.V_far (p := ⟨gb194, 2, none⟩) (Kd.V_far (p := ⟨gb194, 1, none⟩) (Kd.V_far (p := ⟨gb194, 0, none⟩) (Kd.V_mono (Kd.V_mono HO_170002.out (fun k_ hk => (⟨hk, hk.2⟩ : _ ∧ k_ ≠ gb194))) (fun k_ hk => (⟨hk, hk.1.1.2.2.1⟩ : _ ∧ k_ ≠ gb169))) (fun _ hk => hk.1.2) (.int .i64 t186)) (fun _ hk => hk.1.2) (.string t187)) (fun _ hk => hk.1.2) (.slice Ao37 t188.length co37)) (fun _ hk => hk.2) (.int .i64 t186)) (fun _ hk => hk.2) (.string t187)) (fun _ hk => hk.2) (.slice Ao37 t188.length co37)) (fun _ hk => ⟨⟨hk.1.1.1.1, ⟨hk.1.1.1.2.2.1, ⟨hk.1.1.1.2.2.2, hk.1.1.2⟩⟩⟩, hk.1.1.1.2.1⟩))) hg hat); have n1_ := Aside0.mk (blk_grown (g := gb169) (o := .cells #[.int .i64 t186, .string t187, .slice Ao37 t188.length co37] 39 (0, 0)) (by (with_reducible repeat (first | refine blk_drewN ?_ _ | refine blk_drew ?_ | refine blk_alloc ?_ _)); refine blk_put (cs := #[.int .i64 t186, .string t187, .slice Ao29 x170002_1.length co29]) ?_ 2 _ rfl; (with_reducible repeat (first | refine blk_drewN ?_ _ | refine blk_drew ?_ | refine blk_alloc ?_ _)); refine blk_put (cs := #[.int .i64 t186, .string x170001_1, .slice Ao29 x170002_1.length co29]) ?_ 1 _ rfl; (with_reducible repeat (first | refine blk_drewN ?_ _ | refine blk_drew ?_ | refine blk_alloc ?_ _)); refine blk_put (cs := #[.int .i64 x170000_1, .string x170001_1, .slice Ao29 x170002_1.length co29]) ?_ 0 _ rfl; (with_reducible repeat (first | refine blk_drewN ?_ _ | refine blk_drew ?_ | refine blk_alloc ?_ _)); refine blk_far ?_ NB169_194.out _; (with_reducible repeat (first | refine blk_drewN ?_ _ | refine blk_drew ?_ | refine blk_alloc ?_ _)); refine blk_far ?_ NB169_194.out _; (with_reducible repeat (first | refine blk_drewN ?_ _ | refine blk_drew ?_ | refine blk_alloc ?_ _)); refine blk_far ?_ NB169_194.out _; (with_reducible repeat (first | refine blk_drewN ?_ _ | refine blk_drew ?_ | refine blk_alloc ?_ _)); exact BK169.out) hg (Kd.N_ne HO_6.out BK169.out (by decide))); have n2_ := Aside0.mk (blk_grown (g := gb170) (o := .cells #[.int .i64 0, .string (⟨#[]⟩ : ByteArray), .slice none 0 0] 39 (0, 0)) (by (with_reducible repeat (first | refine blk_drewN ?_ _ | refine blk_drew ?_ | refine blk_alloc ?_ _)); refine blk_far ?_ NB170_169.out _; (with_reducible repeat (first | refine blk_drewN ?_ _ | refine blk_drew ?_ | refine blk_alloc ?_ _)); refine blk_far ?_ NB170_169.out _; (with_reducible repeat (first | refine blk_drewN ?_ _ | refine blk_drew ?_ | refine blk_alloc ?_ _)); refine blk_far ?_ NB170_169.out _; (with_reducible repeat (first | refine blk_drewN ?_ _ | refine blk_drew ?_ | refine blk_alloc ?_ _)); refine blk_far ?_ NB170_194.out _; (with_reducible repeat (first | refine blk_drewN ?_ _ | refine blk_drew ?_ | refine blk_alloc ?_ _)); refine blk_far ?_ NB170_194.out _; (with_reducible repeat (first | refine blk_drewN ?_ _ | refine blk_drew ?_ | refine blk_alloc ?_ _)); refine blk_far ?_ NB170_194.out _; (with_reducible repeat (first | refine blk_drewN ?_ _ | refine blk_drew ?_ | refine blk_alloc ?_ _)); exact BK170.out) hg (Kd.N_ne HO_6.out BK170.out (by decide))); have n3_ := Aside0.mk (Kd.V_afterv (ok := (fun k_ => (P0_2_ k_ ∨ w.heap.size ≤ k_) ∧ k_ ≠ gb169 ∧ k_ ≠ gb170 ∧ k_ ≠ gb194)) (Kd.pV (Kd.V_mono (Kd.V_far (p := ⟨gb169, 2, none⟩) (Kd.V_far (p := ⟨gb169, 1, none⟩) (Kd.V_far (p := ⟨gb169, 0, none⟩) (Kd.V_far (p := ⟨gb194, 2, none⟩) (Kd.V_far (p := ⟨gb194, 1, none⟩) (Kd.V_far (p := ⟨gb194, 0, none⟩) (Kd.V_mono (Kd.V_mono HO190.out (fun k_ hk => (⟨hk, hk.2⟩ : _ ∧ k_ ≠ gb194))) (fun k_ hk => (⟨hk, hk.1.1.2.2.1⟩ : _ ∧ k_ ≠ gb169))) (fun _ hk => hk.1.2) (.int .i64 t186)) (fun _ hk => hk.1.2) (.string t187)) (fun _ hk => hk.1.2) (.slice Ao37 t188.length co37)) (fun _ hk => hk.2) (.int .i64 t186)) (fun _ hk => hk.2) (.string t187)) (fun _ hk => hk.2) (.slice Ao37 t188.length co37)) (fun _ hk => ⟨⟨hk.1.1.1.1, ⟨hk.1.1.1.2.2.1, ⟨hk.1.1.1.2.2.2, hk.1.1.2⟩⟩⟩, hk.1.1.1.2.1⟩))) hg hat); have n4_ := Aside0.mk (Kd.V_afterv (ok := (fun k_ => (P0_2_ k_ ∨ w.heap.size ≤ k_) ∧ k_ ≠ gb169 ∧ k_ ≠ gb170 ∧ k_ ≠ gb194)) (Kd.pV (Kd.V_mono (Kd.V_far (p := ⟨gb169, 2, none⟩) (Kd.V_far (p := ⟨gb169, 1, none⟩) (Kd.V_far (p := ⟨gb169, 0, none⟩) (Kd.V_far (p := ⟨gb194, 2, none⟩) (Kd.V_far (p := ⟨gb194, 1, none⟩) (Kd.V_far (p := ⟨gb194, 0, none⟩) (Kd.V_mono (Kd.V_mono HO193.out (fun k_ hk => (⟨hk, hk.2⟩ : _ ∧ k_ ≠ gb194))) (fun k_ hk => (⟨hk, hk.1.1.2.2.1⟩ : _ ∧ k_ ≠ gb169))) (fun _ hk => hk.1.2) (.int .i64 t186)) (fun _ hk => hk.1.2) (.string t187)) (fun _ hk => hk.1.2) (.slice Ao37 t188.length co37)) (fun _ hk => hk.2) (.int .i64 t186)) (fun _ hk => hk.2) (.string t187)) (fun _ hk => hk.2) (.slice Ao37 t188.length co37)) (fun _ hk => ⟨⟨hk.1.1.1.1, ⟨hk.1.1.1.2.2.1, ⟨hk.1.1.1.2.2.2, hk.1.1.2⟩⟩⟩, hk.1.1.1.2.1⟩))) hg hat); have n5_ := Aside0.mk (blk_grown (g := gb194) (o := .cells #[.int .i64 t186, .string t187, .slice Ao37 t188.length co37] 39 (0, 0)) (by (with_reducible repeat (first | refine blk_drewN ?_ _ | refine blk_drew ?_ | refine blk_alloc ?_ _)); refine blk_far ?_ NB194_169.out _; (with_reducible repeat (first | refine blk_drewN ?_ _ | refine blk_drew ?_ | refine blk_alloc ?_ _)); refine blk_far ?_ NB194_169.out _; (with_reducible repeat (first | refine blk_drewN ?_ _ | refine blk_drew ?_ | refine blk_alloc ?_ _)); refine blk_far ?_ NB194_169.out _; (with_reducible repeat (first | refine blk_drewN ?_ _ | refine blk_drew ?_ | refine blk_alloc ?_ _)); refine blk_put (cs := #[.int .i64 t186, .string t187, .slice none 0 0]) ?_ 2 _ rfl; (with_reducible repeat (first | refine blk_drewN ?_ _ | refine blk_drew ?_ | refine blk_alloc ?_ _)); refine blk_put (cs := #[.int .i64 t186, .string (⟨#[]⟩ : ByteArray), .slice none 0 0]) ?_ 1 _ rfl; (with_reducible repeat (first | refine blk_drewN ?_ _ | refine blk_drew ?_ | refine blk_alloc ?_ _)); refine blk_put (cs := #[.int .i64 0, .string (⟨#[]⟩ : ByteArray), .slice none 0 0]) ?_ 0 _ rfl; (with_reducible repeat (first | refine blk_drewN ?_ _ | refine blk_drew ?_ | refine blk_alloc ?_ _)); exact BK194.out) hg (Kd.N_ne HO_6.out BK194.out (by decide))); have n6_ := Aside0.mk (hb); have n7_ := Aside0.mk (ho); clear HO_170002; clear BK169; clear BK170; clear HO190; clear HO193; clear BK194; clear HB; clear HO_6; have HO_170002 := n0_; have BK169 := n1_; have BK170 := n2_; have HO190 := n3_; have HO193 := n4_; have BK194 := n5_; have HB := n6_; have HO197 := n7_; clear n0_ n1_ n2_ n3_ n4_ n5_ n6_ n7_; clear ho hb hg hat))
         have n0_ := Aside0.mk (Kd.V_drew HO_170002.out)
         have n1_ := Aside0.mk (Kd.V_drew HO190.out)
         have n2_ := Aside0.mk (Kd.V_drew HO193.out)
         have n3_ := Aside0.mk (Kd.N_drew HO197.out)
         have n4_ := Aside0.mk (blk_drew BK169.out)
         have n5_ := Aside0.mk (blk_drew BK170.out)
         have n6_ := Aside0.mk (blk_drew BK194.out)
         have n7_ := Aside0.mk (below_drew1 HB.out)
         clear HO_170002
         clear HO190
         clear HO193
         clear HO197
         clear BK169
         clear BK170
         clear BK194
         clear HB
         have HO_170002 := n0_
         have HO190 := n1_
         have HO193 := n2_
         have HO197 := n3_
         have BK169 := n4_
         have BK170 := n5_
         have BK194 := n6_
         have HB := n7_
         clear n0_ n1_ n2_ n3_ n4_ n5_ n6_ n7_
         have p204 : 0 ≤ (x7_1 : Int) := of_decide_eq_true (by first | (with_reducible assumption) | assumption)
         have q204 : x7_1 < (l1.length : Int) := of_decide_eq_true (by first | (with_reducible assumption) | assumption)
         obtain ⟨ad204, e204, hx204_0⟩ := Kd.at_string HR1.out x7_1 p204 q204
         have hw204_0 := hx204_0
         obtain rfl : ad171 = ad204 := (by injection e204)
         replace hx204_0 := (HB.out.cell (World.block_lt_of_cell? w _ hx204_0)).trans hx204_0
         replace p204 := eq_true p204
         replace q204 := eq_true q204
         refine start_ (n := 12) (S := fun w' => w'.cell? ⟨gb169, 0, none⟩ = some (.int .i64 t186) ∧ w'.cell? ⟨gb169, 1, none⟩ = some (.string t187) ∧ w'.cell? ⟨gb169, 2, none⟩ = some (.slice Ao37 t188.length co37) ∧ w'.cell? (ad171.add (x7_1).toNat) = some (.string (rdOf ByteArray.empty l1 x7_1))) (ds := [11]) #[false, false, false, false, false, false, false, false, false, false, false, false] (by kernel_rfl) rfl rfl ⟨(blk_cell BK169.out 0).trans rfl, (blk_cell BK169.out 1).trans rfl, (blk_cell BK169.out 2).trans rfl, ((HB.out.cell (World.block_lt_of_cell? w _ hw204_0)).trans (by first | exact hw204_0))⟩ (fun hHeld => ?_); refine with_tabW selvedgeref15_Feed.tab10 selvedgeref15_Feed.bits10 (fun HT_ HW_ => ?_)
         generalize w39.drew = w41 at HO_170002 HO190 HO193 HO197 BK169 BK170 BK194 HB hx204_0 hHeld ⊢
         refine pure_ (i := 1) (N := some 36) (v := ?_) (a' := ?_) #[false, true, false, false, false, false, false, false, false, false, false, false] rfl rfl (any_of HT_.out (by kernel_rfl)) (fun _ _ _ h => h) (Or.inl ⟨by rfl, ?_⟩) ?_ ?_
         rotate_left
         ·
          intro w'
          go_simp
          with_reducible rfl
         rotate_left
         ·
          simp only [Act.put, List.setIfInBounds_toArray, List.set_cons_zero, List.set_cons_succ, i64_w, i32_w]
          rfl
         refine pure_ (i := 4) (N := some 39) (v := ?_) (a' := ?_) #[false, true, false, false, true, false, false, false, false, false, false, false] rfl rfl (any_of HT_.out (by kernel_rfl)) (fun _ _ _ h => h) (Or.inl ⟨by rfl, ?_⟩) ?_ ?_
         rotate_left
         ·
          intro w'
          go_simp
          with_reducible rfl
         rotate_left
         ·
          simp only [Act.put, List.setIfInBounds_toArray, List.set_cons_zero, List.set_cons_succ, i64_w, i32_w]
          rfl
         refine pure_ (i := 5) (N := some 40) (v := ?_) (a' := ?_) #[false, true, false, false, true, true, false, false, false, false, false, false] rfl rfl (any_of HT_.out (by kernel_rfl)) (fun _ _ _ h => h) (Or.inl ⟨by rfl, ?_⟩) ?_ ?_
         rotate_left
         ·
          intro w'
          go_simp
          with_reducible rfl
         rotate_left
         ·
          simp only [Act.put, List.setIfInBounds_toArray, List.set_cons_zero, List.set_cons_succ, i64_w, i32_w]
          rfl
         refine pure_ (i := 6) (N := some 41) (v := ?_) (a' := ?_) #[false, true, false, false, true, true, true, false, false, false, false, false] rfl rfl (any_of HT_.out (by kernel_rfl)) (fun _ _ _ h => h) (Or.inl ⟨by rfl, ?_⟩) ?_ ?_
         rotate_left
         ·
          intro w'
          go_simp
          with_reducible rfl
         rotate_left
         ·
          simp only [Act.put, List.setIfInBounds_toArray, List.set_cons_zero, List.set_cons_succ, i64_w, i32_w]
          rfl
         refine take_ (i := 2) (N := some 37) (v := ?_) (a' := ?_) #[false, true, true, false, true, true, true, false, false, false, false, false] rfl rfl (take_ofW HT_.out HW_.out (by kernel_rfl)) (fun _ _ _ h => h) (Or.inl ⟨by rfl, ?_⟩) hHeld ?_ ?_
         rotate_left
         ·
          rintro w' ⟨s0, s1, s2, s3⟩
          go_simp
          with_reducible rfl
         rotate_left
         ·
          simp only [Act.put, List.setIfInBounds_toArray, List.set_cons_zero, List.set_cons_succ, i64_w, i32_w]
          rfl
         refine take_ (i := 7) (N := some 42) (v := ?_) (a' := ?_) #[false, true, true, false, true, true, true, true, false, false, false, false] rfl rfl (take_ofW HT_.out HW_.out (by kernel_rfl)) (fun _ _ _ h => h) (Or.inl ⟨by rfl, ?_⟩) hHeld ?_ ?_
         rotate_left
         ·
          rintro w' ⟨s0, s1, s2, s3⟩
          go_simp
          with_reducible rfl
         rotate_left
         ·
          simp only [Act.put, List.setIfInBounds_toArray, List.set_cons_zero, List.set_cons_succ, i64_w, i32_w]
          rfl
         refine join_ (σ := Value × Value × Value) 3 #[true, true, true, true, true, true, true, true, true, false, false, false] (fun s_ => [(35, s_.1), (38, s_.2.1), (43, s_.2.2)]) (fun s_ w' => (w'.cell? ⟨gb169, 0, none⟩ = some (.int .i64 t186) ∧ w'.cell? ⟨gb169, 1, none⟩ = some (.string t187) ∧ w'.cell? ⟨gb169, 2, none⟩ = some (.slice Ao37 t188.length co37) ∧ w'.cell? (ad171.add (x7_1).toNat) = some (.string (rdOf ByteArray.empty l1 x7_1))) ∧ (Kd.V Kd.string 9 w' w.heap.size (fun k_ => (P0_2_ k_ ∨ w.heap.size ≤ k_) ∧ some k_ ≠ (v196 : Value).ownBlock ∧ some k_ ≠ (s_.2.1 : Value).ownBlock ∧ some k_ ≠ (s_.2.2 : Value).ownBlock ∧ k_ ≠ gb169 ∧ k_ ≠ gb170 ∧ k_ ≠ gb194) (.slice Ao37 t188.length co37) t188) ∧ (Kd.V k40 40 w' w.heap.size (fun k_ => (P0_2_ k_ ∨ w.heap.size ≤ k_) ∧ some k_ ≠ (v196 : Value).ownBlock ∧ some k_ ≠ (s_.2.1 : Value).ownBlock ∧ some k_ ≠ (s_.2.2 : Value).ownBlock ∧ k_ ≠ gb169 ∧ k_ ≠ gb170 ∧ k_ ≠ gb194) (.slice Ao40 t191.length co40) t191) ∧ (Kd.N k40 40 w' w.heap.size (fun k_ => (P0_2_ k_ ∨ w.heap.size ≤ k_) ∧ some k_ ≠ (s_.2.1 : Value).ownBlock ∧ some k_ ≠ (s_.2.2 : Value).ownBlock ∧ k_ ≠ gb169 ∧ k_ ≠ gb170 ∧ k_ ≠ gb194) v196 y195) ∧ (Kd.R Kd.string 9 w' w.heap.size (fun k_ => (w.heap.size ≤ k_) ∧ some k_ ≠ (s_.2.2 : Value).ownBlock) s_.2.1 y201) ∧ (Kd.R Kd.string 9 w' w.heap.size (fun k_ => (w.heap.size ≤ k_) ∧ some k_ ≠ (s_.2.1 : Value).ownBlock) s_.2.2 y205) ∧ (Kd.V Kd.string 9 w' w.heap.size (fun k_ => (P0_2_ k_ ∨ w.heap.size ≤ k_) ∧ some k_ ≠ (v196 : Value).ownBlock ∧ some k_ ≠ (s_.2.1 : Value).ownBlock ∧ some k_ ≠ (s_.2.2 : Value).ownBlock ∧ k_ ≠ gb169 ∧ k_ ≠ gb170 ∧ k_ ≠ gb194) (.slice Ao29 x170002_1.length co29) x170002_1) ∧ (w'.heap[gb169]? = some (.cells #[.int .i64 t186, .string t187, .slice Ao37 t188.length co37] 39 (0, 0))) ∧ (w'.heap[gb170]? = some (.cells #[.int .i64 0, .string (⟨#[]⟩ : ByteArray), .slice none 0 0] 39 (0, 0))) ∧ (w'.heap[gb194]? = some (.cells #[.int .i64 t186, .string t187, .slice Ao37 t188.length co37] 39 (0, 0))) ∧ (Below w.heap.size w w')) ?_ ?_
         rotate_left
         ·
          intro hCont
          refine two_ (i := 0) (j := 8) (Ni := some 35) (Nj := some 43) #[true, true, true, false, true, true, true, true, false, false, false, false] #[false, true, true, false, true, true, true, true, true, false, false, false] rfl rfl rfl rfl (two_of HT_.out (by kernel_rfl)) (by decide) (by decide) (fun K hK => ?_) (fun K hK => ?_)
          ·
           skip
           refine Kd.R_lit_step Kd.string _ 9 ?hg (N := 35) ?hd (xs := ([] : List ByteArray)) (inner := []) (ok := fun _ => True) (okp := fun _ => True) ?hr ?hp (fun _ hk => hk) trivial (Below.refl _ _) (Nat.le_refl _) (by simp) ?_; (case hd => rfl); (case hg => rfl); (case hr => first | (go_simp; done) | (go_simp; rfl)); (case hp => exact (Reps.none _ _))
           intro v199 w42 ho43 hb hg_ hnew_
           clear hg_ hnew_
           (first | rw [← Ny198.out] at ho43 | (simp only [Int.reduceToNat] at ho43; rw [← Ny198.out] at ho43))
           have n0_ := Aside0.mk (Kd.V_elder' (Kd.pV HO_170002.out) (Kd.R_base ho43) hb)
           have n1_ := Aside0.mk (Kd.V_elder' (Kd.pV HO190.out) (Kd.R_base ho43) hb)
           have n2_ := Aside0.mk (Kd.V_elder' (Kd.pV HO193.out) (Kd.R_base ho43) hb)
           have n3_ := Aside0.mk (Kd.N_elder' (Kd.pN HO197.out) (Kd.R_base ho43) hb)
           have n4_ := Aside0.mk (Kd.R_lower (Kd.R_newM (M := fun k_ => (w.heap.size ≤ k_)) ho43 (below_size (by repeat (first | (with_reducible first | exact HB.out | apply below_alloc | apply pw_below_drewN | apply below_drew1 | refine below_set ?_ GE169.out | refine below_set ?_ GE170.out | refine below_set ?_ GE194.out) | exact HB.out))) (fun k_ h_ => h_)) (below_size (by repeat (first | (with_reducible first | exact HB.out | apply below_alloc | apply pw_below_drewN | apply below_drew1 | refine below_set ?_ GE169.out | refine below_set ?_ GE170.out | refine below_set ?_ GE194.out) | exact HB.out))))
           have n5_ := Aside0.mk (blk_below (g := gb169) (o := .cells #[.int .i64 t186, .string t187, .slice Ao37 t188.length co37] 39 (0, 0)) (pB BK169.out) hb)
           have n6_ := Aside0.mk (blk_below (g := gb170) (o := .cells #[.int .i64 0, .string (⟨#[]⟩ : ByteArray), .slice none 0 0] 39 (0, 0)) (pB BK170.out) hb)
           have n7_ := Aside0.mk (blk_below (g := gb194) (o := .cells #[.int .i64 t186, .string t187, .slice Ao37 t188.length co37] 39 (0, 0)) (pB BK194.out) hb)
           have n8_ := Aside0.mk (below_step (by repeat (first | (with_reducible first | exact HB.out | apply below_alloc | apply pw_below_drewN | apply below_drew1 | refine below_set ?_ GE169.out | refine below_set ?_ GE170.out | refine below_set ?_ GE194.out) | exact HB.out)) hb)
           clear HO_170002
           clear HO190
           clear HO193
           clear HO197
           clear BK169
           clear BK170
           clear BK194
           clear HB
           have HO_170002 := n0_
           have HO190 := n1_
           have HO193 := n2_
           have HO197 := n3_
           have HO200 := n4_
           have BK169 := n5_
           have BK170 := n6_
           have BK194 := n7_
           have HB := n8_
           clear n0_ n1_ n2_ n3_ n4_ n5_ n6_ n7_ n8_
           clear hb ho43
           refine hK.out _ _ ⟨(blk_cell BK169.out 0).trans rfl, (blk_cell BK169.out 1).trans rfl, (blk_cell BK169.out 2).trans rfl, ((HB.out.cell (World.block_lt_of_cell? w _ hw204_0)).trans (by first | exact hw204_0))⟩ (fun hHeld => ?_)
           clear hK K
           refine norm_ (a' := ?_) ?_ ?_
           rotate_left
           ·
            show Act.put _ (some 35) _ = _
            simp only [Act.put, List.setIfInBounds_toArray, List.set_cons_zero, List.set_cons_succ, i64_w, i32_w]
            rfl
           refine two_ (i := 3) (j := 8) (Ni := some 38) (Nj := some 43) #[true, true, true, true, true, true, true, true, false, false, false, false] #[true, true, true, false, true, true, true, true, true, false, false, false] rfl rfl rfl rfl (two_of HT_.out (by kernel_rfl)) (by decide) (by decide) (fun K hK => ?_) (fun K hK => ?_)
           ·
            skip
            refine Kd.R_append_rows_step Kd.string (w0 := w) w.heap.size (by rfl) (.tmp 35) (.tmp 37) 37 9 (.string ⟨#[]⟩) 16 rfl Try.underlying37 info9 rfl (by decide) (by omega) v199 y198 t188 _ _ _ (fun k_ => (w.heap.size ≤ k_)) (fun _ => False) rfl rfl ?aO ?aR (fun _ _ h => h) (fun _ h => h.elim) ?aF ?aB ?aS ?aL ?_
            (case aR => repeat (first | exact (Kd.V_reads' HO190.out).2.2 | (with_reducible refine Kd.C_alloc ?_ _) | (with_reducible refine Kd.C_drewN ?_ _) | (with_reducible refine Kd.C_drew ?_)))
            (case aB => exact (by repeat (first | (with_reducible first | exact HB.out | apply below_alloc | apply pw_below_drewN | apply below_drew1 | refine below_set ?_ GE169.out | refine below_set ?_ GE170.out | refine below_set ?_ GE194.out) | exact HB.out)))
            (case aF => exact (fun k_ hk => (Nat.le_trans (below_size (by repeat (first | (with_reducible first | exact HB.out | apply below_alloc | apply pw_below_drewN | apply below_drew1 | refine below_set ?_ GE169.out | refine below_set ?_ GE170.out | refine below_set ?_ GE194.out) | exact HB.out))) hk)))
            (case aO => exact (Kd.pR (Kd.R_mono HO200.out (fun _ hk => hk.1))))
            (case aS => exact (below_size (by repeat (first | (with_reducible first | exact HB.out | apply below_alloc | apply pw_below_drewN | apply below_drew1 | refine below_set ?_ GE169.out | refine below_set ?_ GE170.out | refine below_set ?_ GE194.out) | exact HB.out))))
            (case aL => have := LMc26.out; omega)
            intro v202 w44 ho hb hg hat
            rw [← Ny201.out] at ho
            have n0_ := Aside0.mk (Kd.V_afterv (ok := (fun k_ => (P0_2_ k_ ∨ w.heap.size ≤ k_) ∧ some k_ ≠ (v196 : Value).ownBlock ∧ k_ ≠ gb169 ∧ k_ ≠ gb170 ∧ k_ ≠ gb194)) (Kd.pV (Kd.V_mono HO_170002.out (fun _ hk => ⟨⟨hk.1.1.1, ⟨hk.1.2, ⟨hk.1.1.2.1, ⟨hk.1.1.2.2.1, hk.1.1.2.2.2⟩⟩⟩⟩, hk.2⟩))) hg hat)
            have n1_ := Aside0.mk (blk_grown (g := gb169) (o := .cells #[.int .i64 t186, .string t187, .slice Ao37 t188.length co37] 39 (0, 0)) (pB BK169.out) hg (Kd.R_ne HO200.out BK169.out (by decide)))
            have n2_ := Aside0.mk (blk_grown (g := gb170) (o := .cells #[.int .i64 0, .string (⟨#[]⟩ : ByteArray), .slice none 0 0] 39 (0, 0)) (pB BK170.out) hg (Kd.R_ne HO200.out BK170.out (by decide)))
            have n3_ := Aside0.mk (Kd.V_afterv (ok := (fun k_ => (P0_2_ k_ ∨ w.heap.size ≤ k_) ∧ some k_ ≠ (v196 : Value).ownBlock ∧ k_ ≠ gb169 ∧ k_ ≠ gb170 ∧ k_ ≠ gb194)) (Kd.pV (Kd.V_mono HO190.out (fun _ hk => ⟨⟨hk.1.1.1, ⟨hk.1.2, ⟨hk.1.1.2.1, ⟨hk.1.1.2.2.1, hk.1.1.2.2.2⟩⟩⟩⟩, hk.2⟩))) hg hat)
            have n4_ := Aside0.mk (Kd.V_afterv (ok := (fun k_ => (P0_2_ k_ ∨ w.heap.size ≤ k_) ∧ some k_ ≠ (v196 : Value).ownBlock ∧ k_ ≠ gb169 ∧ k_ ≠ gb170 ∧ k_ ≠ gb194)) (Kd.pV (Kd.V_mono HO193.out (fun _ hk => ⟨⟨hk.1.1.1, ⟨hk.1.2, ⟨hk.1.1.2.1, ⟨hk.1.1.2.2.1, hk.1.1.2.2.2⟩⟩⟩⟩, hk.2⟩))) hg hat)
            have n5_ := Aside0.mk (blk_grown (g := gb194) (o := .cells #[.int .i64 t186, .string t187, .slice Ao37 t188.length co37] 39 (0, 0)) (pB BK194.out) hg (Kd.R_ne HO200.out BK194.out (by decide)))
            have n6_ := Aside0.mk (Kd.N_afterv (ok := (fun k_ => (P0_2_ k_ ∨ w.heap.size ≤ k_) ∧ k_ ≠ gb169 ∧ k_ ≠ gb170 ∧ k_ ≠ gb194)) (Kd.pN HO197.out) hg hat)
            have n7_ := Aside0.mk (hb)
            have n8_ := Aside0.mk (ho)
            clear HO_170002
            clear BK169
            clear BK170
            clear HO190
            clear HO193
            clear BK194
            clear HO197
            clear HB
            clear HO200
            have HO_170002 := n0_
            have BK169 := n1_
            have BK170 := n2_
            have HO190 := n3_
            have HO193 := n4_
            have BK194 := n5_
            have HO197 := n6_
            have HB := n7_
            have HO203 := n8_
            clear n0_ n1_ n2_ n3_ n4_ n5_ n6_ n7_ n8_
            clear ho hb hg hat
            refine hK.out _ _ ⟨(blk_cell BK169.out 0).trans rfl, (blk_cell BK169.out 1).trans rfl, (blk_cell BK169.out 2).trans rfl, ((HB.out.cell (World.block_lt_of_cell? w _ hw204_0)).trans (by first | exact hw204_0))⟩ (fun hHeld => ?_)
            clear hK K
            refine norm_ (a' := ?_) ?_ ?_
            rotate_left
            ·
             show Act.put _ (some 38) _ = _
             simp only [Act.put, List.setIfInBounds_toArray, List.set_cons_zero, List.set_cons_succ, i64_w, i32_w]
             rfl
            refine one_ (i := 8) (N := some 43) #[true, true, true, true, true, true, true, true, true, false, false, false] rfl rfl (one_of HT_.out (by kernel_rfl)) (by decide) (fun K hK => ?_)
            refine Kd.R_lit_step Kd.string _ 9 ?hg (N := 43) ?hd (xs := ([rdOf ByteArray.empty l1 x7_1] : List ByteArray)) (inner := [.string (rdOf ByteArray.empty l1 x7_1)]) (ok := fun _ => True) (okp := fun _ => True) ?hr ?hp (fun _ hk => hk) trivial (Below.refl _ _) (Nat.le_refl _) (by simp) ?_; (case hd => rfl); (case hg => rfl); (case hr => first | (go_simp; done) | (go_simp; rfl)); (case hp => exact (Reps.one (show Kd.M Kd.string _ _ _ (rdOf ByteArray.empty l1 x7_1) [.string (rdOf ByteArray.empty l1 x7_1)] from rfl) (Reps.none _ _)))
            intro v206 w45 ho46 hb hg_ hnew_
            clear hg_ hnew_
            (first | rw [← Ny205.out] at ho46 | (simp only [Int.reduceToNat] at ho46; rw [← Ny205.out] at ho46))
            have n0_ := Aside0.mk (Kd.V_elder' (Kd.pV HO_170002.out) (Kd.R_base ho46) hb)
            have n1_ := Aside0.mk (Kd.V_elder' (Kd.pV HO190.out) (Kd.R_base ho46) hb)
            have n2_ := Aside0.mk (Kd.V_elder' (Kd.pV HO193.out) (Kd.R_base ho46) hb)
            have n3_ := Aside0.mk (Kd.N_elder' (Kd.pN HO197.out) (Kd.R_base ho46) hb)
            have n4_ := Aside0.mk (Kd.R_elder' (Kd.pR HO203.out) (Kd.R_base ho46) hb)
            have n5_ := Aside0.mk (Kd.R_lower (Kd.R_new' (Kd.R_newM (M := fun k_ => (w.heap.size ≤ k_)) ho46 (below_size (by repeat (first | (with_reducible first | exact HB.out | apply below_alloc | apply pw_below_drewN | apply below_drew1 | refine below_set ?_ GE169.out | refine below_set ?_ GE170.out | refine below_set ?_ GE194.out) | exact HB.out))) (fun k_ h_ => h_)) (Kd.R_lt (Kd.pR HO203.out))) (below_size (by repeat (first | (with_reducible first | exact HB.out | apply below_alloc | apply pw_below_drewN | apply below_drew1 | refine below_set ?_ GE169.out | refine below_set ?_ GE170.out | refine below_set ?_ GE194.out) | exact HB.out))))
            have n6_ := Aside0.mk (blk_below (g := gb169) (o := .cells #[.int .i64 t186, .string t187, .slice Ao37 t188.length co37] 39 (0, 0)) (pB BK169.out) hb)
            have n7_ := Aside0.mk (blk_below (g := gb170) (o := .cells #[.int .i64 0, .string (⟨#[]⟩ : ByteArray), .slice none 0 0] 39 (0, 0)) (pB BK170.out) hb)
            have n8_ := Aside0.mk (blk_below (g := gb194) (o := .cells #[.int .i64 t186, .string t187, .slice Ao37 t188.length co37] 39 (0, 0)) (pB BK194.out) hb)
            have n9_ := Aside0.mk (below_step (by repeat (first | (with_reducible first | exact HB.out | apply below_alloc | apply pw_below_drewN | apply below_drew1 | refine below_set ?_ GE169.out | refine below_set ?_ GE170.out | refine below_set ?_ GE194.out) | exact HB.out)) hb)
            clear HO_170002
            clear HO190
            clear HO193
            clear HO197
            clear HO203
            clear BK169
            clear BK170
            clear BK194
            clear HB
            have HO_170002 := n0_
            have HO190 := n1_
            have HO193 := n2_
            have HO197 := n3_
            have HO203 := n4_
            have HO207 := n5_
            have BK169 := n6_
            have BK170 := n7_
            have BK194 := n8_
            have HB := n9_
            clear n0_ n1_ n2_ n3_ n4_ n5_ n6_ n7_ n8_ n9_
            clear hb ho46
            refine hK.out _ _ ⟨(blk_cell BK169.out 0).trans rfl, (blk_cell BK169.out 1).trans rfl, (blk_cell BK169.out 2).trans rfl, ((HB.out.cell (World.block_lt_of_cell? w _ hw204_0)).trans (by first | exact hw204_0))⟩ (fun hHeld => ?_)
            clear hK K
            refine norm_ (a' := ?_) ?_ ?_
            rotate_left
            ·
             show Act.put _ (some 43) _ = _
             simp only [Act.put, List.setIfInBounds_toArray, List.set_cons_zero, List.set_cons_succ, i64_w, i32_w]
             rfl
            exact norm_ (by simp only [putAll, Act.put, List.setIfInBounds_toArray, List.set_cons_zero, List.set_cons_succ]) (hCont (v199, v202, v206) _ ⟨hHeld, (Kd.pV (Kd.V_mono HO190.out (fun _ hk => ⟨hk.1.1.1, ⟨hk.1.1.2.1, ⟨hk.1.2, ⟨hk.2, ⟨hk.1.1.2.2.1, ⟨hk.1.1.2.2.2.1, hk.1.1.2.2.2.2⟩⟩⟩⟩⟩⟩))), (Kd.pV (Kd.V_mono HO193.out (fun _ hk => ⟨hk.1.1.1, ⟨hk.1.1.2.1, ⟨hk.1.2, ⟨hk.2, ⟨hk.1.1.2.2.1, ⟨hk.1.1.2.2.2.1, hk.1.1.2.2.2.2⟩⟩⟩⟩⟩⟩))), (Kd.pN (Kd.N_mono HO197.out (fun _ hk => ⟨hk.1.1.1, ⟨hk.1.2, ⟨hk.2, ⟨hk.1.1.2.1, ⟨hk.1.1.2.2.1, hk.1.1.2.2.2⟩⟩⟩⟩⟩))), (Kd.pR HO203.out), (Kd.pR (Kd.R_mono HO207.out (fun _ hk => ⟨hk.1.1, hk.2⟩))), (Kd.pV (Kd.V_mono HO_170002.out (fun _ hk => ⟨hk.1.1.1, ⟨hk.1.1.2.1, ⟨hk.1.2, ⟨hk.2, ⟨hk.1.1.2.2.1, ⟨hk.1.1.2.2.2.1, hk.1.1.2.2.2.2⟩⟩⟩⟩⟩⟩))), (pB BK169.out), (pB BK170.out), (pB BK194.out), (by repeat (first | (with_reducible first | exact HB.out | apply below_alloc | apply pw_below_drewN | apply below_drew1 | refine below_set ?_ GE169.out | refine below_set ?_ GE170.out | refine below_set ?_ GE194.out) | exact HB.out))⟩)
           ·
            skip
            refine Kd.R_lit_step Kd.string _ 9 ?hg (N := 43) ?hd (xs := ([rdOf ByteArray.empty l1 x7_1] : List ByteArray)) (inner := [.string (rdOf ByteArray.empty l1 x7_1)]) (ok := fun _ => True) (okp := fun _ => True) ?hr ?hp (fun _ hk => hk) trivial (Below.refl _ _) (Nat.le_refl _) (by simp) ?_; (case hd => rfl); (case hg => rfl); (case hr => first | (go_simp; done) | (go_simp; rfl)); (case hp => exact (Reps.one (show Kd.M Kd.string _ _ _ (rdOf ByteArray.empty l1 x7_1) [.string (rdOf ByteArray.empty l1 x7_1)] from rfl) (Reps.none _ _)))
            intro v206 w44 ho45 hb hg_ hnew_
            clear hg_ hnew_
            (first | rw [← Ny205.out] at ho45 | (simp only [Int.reduceToNat] at ho45; rw [← Ny205.out] at ho45))
            have n0_ := Aside0.mk (Kd.V_elder' (Kd.pV HO_170002.out) (Kd.R_base ho45) hb)
            have n1_ := Aside0.mk (Kd.V_elder' (Kd.pV HO190.out) (Kd.R_base ho45) hb)
            have n2_ := Aside0.mk (Kd.V_elder' (Kd.pV HO193.out) (Kd.R_base ho45) hb)
            have n3_ := Aside0.mk (Kd.N_elder' (Kd.pN HO197.out) (Kd.R_base ho45) hb)
            have n4_ := Aside0.mk (Kd.R_elder' (Kd.pR HO200.out) (Kd.R_base ho45) hb)
            have n5_ := Aside0.mk (Kd.R_lower (Kd.R_new' (Kd.R_newM (M := fun k_ => (w.heap.size ≤ k_)) ho45 (below_size (by repeat (first | (with_reducible first | exact HB.out | apply below_alloc | apply pw_below_drewN | apply below_drew1 | refine below_set ?_ GE169.out | refine below_set ?_ GE170.out | refine below_set ?_ GE194.out) | exact HB.out))) (fun k_ h_ => h_)) (Kd.R_lt (Kd.pR HO200.out))) (below_size (by repeat (first | (with_reducible first | exact HB.out | apply below_alloc | apply pw_below_drewN | apply below_drew1 | refine below_set ?_ GE169.out | refine below_set ?_ GE170.out | refine below_set ?_ GE194.out) | exact HB.out))))
            have n6_ := Aside0.mk (blk_below (g := gb169) (o := .cells #[.int .i64 t186, .string t187, .slice Ao37 t188.length co37] 39 (0, 0)) (pB BK169.out) hb)
            have n7_ := Aside0.mk (blk_below (g := gb170) (o := .cells #[.int .i64 0, .string (⟨#[]⟩ : ByteArray), .slice none 0 0] 39 (0, 0)) (pB BK170.out) hb)
            have n8_ := Aside0.mk (blk_below (g := gb194) (o := .cells #[.int .i64 t186, .string t187, .slice Ao37 t188.length co37] 39 (0, 0)) (pB BK194.out) hb)
            have n9_ := Aside0.mk (below_step (by repeat (first | (with_reducible first | exact HB.out | apply below_alloc | apply pw_below_drewN | apply below_drew1 | refine below_set ?_ GE169.out | refine below_set ?_ GE170.out | refine below_set ?_ GE194.out) | exact HB.out)) hb)
            clear HO_170002
            clear HO190
            clear HO193
            clear HO197
            clear HO200
            clear BK169
            clear BK170
            clear BK194
            clear HB
            have HO_170002 := n0_
            have HO190 := n1_
            have HO193 := n2_
            have HO197 := n3_
            have HO200 := n4_
            have HO207 := n5_
            have BK169 := n6_
            have BK170 := n7_
            have BK194 := n8_
            have HB := n9_
            clear n0_ n1_ n2_ n3_ n4_ n5_ n6_ n7_ n8_ n9_
            clear hb ho45
            refine hK.out _ _ ⟨(blk_cell BK169.out 0).trans rfl, (blk_cell BK169.out 1).trans rfl, (blk_cell BK169.out 2).trans rfl, ((HB.out.cell (World.block_lt_of_cell? w _ hw204_0)).trans (by first | exact hw204_0))⟩ (fun hHeld => ?_)
            clear hK K
            refine norm_ (a' := ?_) ?_ ?_
            rotate_left
            ·
             show Act.put _ (some 43) _ = _
             simp only [Act.put, List.setIfInBounds_toArray, List.set_cons_zero, List.set_cons_succ, i64_w, i32_w]
             rfl
            refine one_ (i := 3) (N := some 38) #[true, true, true, true, true, true, true, true, true, false, false, false] rfl rfl (one_of HT_.out (by kernel_rfl)) (by decide) (fun K hK => ?_)
            refine Kd.R_append_rows_step Kd.string (w0 := w) w.heap.size (by rfl) (.tmp 35) (.tmp 37) 37 9 (.string ⟨#[]⟩) 16 rfl Try.underlying37 info9 rfl (by decide) (by omega) v199 y198 t188 _ _ _ (fun k_ => (w.heap.size ≤ k_) ∧ some k_ ≠ (v206 : Value).ownBlock) (fun _ => False) rfl rfl ?aO ?aR (fun _ _ h => h) (fun _ h => h.elim) ?aF ?aB ?aS ?aL ?_
            (case aR => repeat (first | exact (Kd.V_reads' HO190.out).2.2 | (with_reducible refine Kd.C_alloc ?_ _) | (with_reducible refine Kd.C_drewN ?_ _) | (with_reducible refine Kd.C_drew ?_)))
            (case aB => exact (by repeat (first | (with_reducible first | exact HB.out | apply below_alloc | apply pw_below_drewN | apply below_drew1 | refine below_set ?_ GE169.out | refine below_set ?_ GE170.out | refine below_set ?_ GE194.out) | exact HB.out)))
            (case aF => exact (fun k_ hk => ⟨(Nat.le_trans (below_size (by repeat (first | (with_reducible first | exact HB.out | apply below_alloc | apply pw_below_drewN | apply below_drew1 | refine below_set ?_ GE169.out | refine below_set ?_ GE170.out | refine below_set ?_ GE194.out) | exact HB.out))) hk), Kd.fresh' (Kd.R_lt (Kd.pR HO207.out)) k_ hk⟩))
            (case aO => exact (Kd.pR (Kd.R_mono HO200.out (fun _ hk => ⟨hk.1.1, hk.2⟩))))
            (case aS => exact (below_size (by repeat (first | (with_reducible first | exact HB.out | apply below_alloc | apply pw_below_drewN | apply below_drew1 | refine below_set ?_ GE169.out | refine below_set ?_ GE170.out | refine below_set ?_ GE194.out) | exact HB.out))))
            (case aL => have := LMc26.out; omega)
            intro v202 w46 ho hb hg hat
            rw [← Ny201.out] at ho
            have n0_ := Aside0.mk (Kd.V_afterv (ok := (fun k_ => (P0_2_ k_ ∨ w.heap.size ≤ k_) ∧ some k_ ≠ (v196 : Value).ownBlock ∧ some k_ ≠ (v206 : Value).ownBlock ∧ k_ ≠ gb169 ∧ k_ ≠ gb170 ∧ k_ ≠ gb194)) (Kd.pV (Kd.V_mono HO_170002.out (fun _ hk => ⟨⟨hk.1.1.1.1, ⟨hk.1.1.2, ⟨hk.2, ⟨hk.1.1.1.2.1, ⟨hk.1.1.1.2.2.1, hk.1.1.1.2.2.2⟩⟩⟩⟩⟩, hk.1.2⟩))) hg hat)
            have n1_ := Aside0.mk (blk_grown (g := gb169) (o := .cells #[.int .i64 t186, .string t187, .slice Ao37 t188.length co37] 39 (0, 0)) (pB BK169.out) hg (Kd.R_ne HO200.out BK169.out (by decide)))
            have n2_ := Aside0.mk (blk_grown (g := gb170) (o := .cells #[.int .i64 0, .string (⟨#[]⟩ : ByteArray), .slice none 0 0] 39 (0, 0)) (pB BK170.out) hg (Kd.R_ne HO200.out BK170.out (by decide)))
            have n3_ := Aside0.mk (Kd.V_afterv (ok := (fun k_ => (P0_2_ k_ ∨ w.heap.size ≤ k_) ∧ some k_ ≠ (v196 : Value).ownBlock ∧ some k_ ≠ (v206 : Value).ownBlock ∧ k_ ≠ gb169 ∧ k_ ≠ gb170 ∧ k_ ≠ gb194)) (Kd.pV (Kd.V_mono HO190.out (fun _ hk => ⟨⟨hk.1.1.1.1, ⟨hk.1.1.2, ⟨hk.2, ⟨hk.1.1.1.2.1, ⟨hk.1.1.1.2.2.1, hk.1.1.1.2.2.2⟩⟩⟩⟩⟩, hk.1.2⟩))) hg hat)
            have n4_ := Aside0.mk (Kd.V_afterv (ok := (fun k_ => (P0_2_ k_ ∨ w.heap.size ≤ k_) ∧ some k_ ≠ (v196 : Value).ownBlock ∧ some k_ ≠ (v206 : Value).ownBlock ∧ k_ ≠ gb169 ∧ k_ ≠ gb170 ∧ k_ ≠ gb194)) (Kd.pV (Kd.V_mono HO193.out (fun _ hk => ⟨⟨hk.1.1.1.1, ⟨hk.1.1.2, ⟨hk.2, ⟨hk.1.1.1.2.1, ⟨hk.1.1.1.2.2.1, hk.1.1.1.2.2.2⟩⟩⟩⟩⟩, hk.1.2⟩))) hg hat)
            have n5_ := Aside0.mk (blk_grown (g := gb194) (o := .cells #[.int .i64 t186, .string t187, .slice Ao37 t188.length co37] 39 (0, 0)) (pB BK194.out) hg (Kd.R_ne HO200.out BK194.out (by decide)))
            have n6_ := Aside0.mk (Kd.N_afterv (ok := (fun k_ => (P0_2_ k_ ∨ w.heap.size ≤ k_) ∧ some k_ ≠ (v206 : Value).ownBlock ∧ k_ ≠ gb169 ∧ k_ ≠ gb170 ∧ k_ ≠ gb194)) (Kd.pN (Kd.N_mono HO197.out (fun _ hk => ⟨⟨hk.1.1.1, ⟨hk.2, ⟨hk.1.1.2.1, ⟨hk.1.1.2.2.1, hk.1.1.2.2.2⟩⟩⟩⟩, hk.1.2⟩))) hg hat)
            have n7_ := Aside0.mk (Kd.R_after (ok := (fun k_ => (w.heap.size ≤ k_))) (Kd.pR (Kd.R_mono HO207.out (fun _ hk => ⟨hk.1.1, hk.2⟩))) hg hat)
            have n8_ := Aside0.mk (hb)
            have n9_ := Aside0.mk (ho)
            clear HO_170002
            clear BK169
            clear BK170
            clear HO190
            clear HO193
            clear BK194
            clear HO197
            clear HO207
            clear HB
            clear HO200
            have HO_170002 := n0_
            have BK169 := n1_
            have BK170 := n2_
            have HO190 := n3_
            have HO193 := n4_
            have BK194 := n5_
            have HO197 := n6_
            have HO207 := n7_
            have HB := n8_
            have HO203 := n9_
            clear n0_ n1_ n2_ n3_ n4_ n5_ n6_ n7_ n8_ n9_
            clear ho hb hg hat
            refine hK.out _ _ ⟨(blk_cell BK169.out 0).trans rfl, (blk_cell BK169.out 1).trans rfl, (blk_cell BK169.out 2).trans rfl, ((HB.out.cell (World.block_lt_of_cell? w _ hw204_0)).trans (by first | exact hw204_0))⟩ (fun hHeld => ?_)
            clear hK K
            refine norm_ (a' := ?_) ?_ ?_
            rotate_left
            ·
             show Act.put _ (some 38) _ = _
             simp only [Act.put, List.setIfInBounds_toArray, List.set_cons_zero, List.set_cons_succ, i64_w, i32_w]
             rfl
            exact norm_ (by simp only [putAll, Act.put, List.setIfInBounds_toArray, List.set_cons_zero, List.set_cons_succ]) (hCont (v199, v202, v206) _ ⟨hHeld, (Kd.pV (Kd.V_mono HO190.out (fun _ hk => ⟨hk.1.1, ⟨hk.1.2.1, ⟨hk.2, ⟨hk.1.2.2.1, ⟨hk.1.2.2.2.1, ⟨hk.1.2.2.2.2.1, hk.1.2.2.2.2.2⟩⟩⟩⟩⟩⟩))), (Kd.pV (Kd.V_mono HO193.out (fun _ hk => ⟨hk.1.1, ⟨hk.1.2.1, ⟨hk.2, ⟨hk.1.2.2.1, ⟨hk.1.2.2.2.1, ⟨hk.1.2.2.2.2.1, hk.1.2.2.2.2.2⟩⟩⟩⟩⟩⟩))), (Kd.pN (Kd.N_mono HO197.out (fun _ hk => ⟨hk.1.1, ⟨hk.2, ⟨hk.1.2.1, ⟨hk.1.2.2.1, ⟨hk.1.2.2.2.1, hk.1.2.2.2.2⟩⟩⟩⟩⟩))), (Kd.pR HO203.out), (Kd.pR HO207.out), (Kd.pV (Kd.V_mono HO_170002.out (fun _ hk => ⟨hk.1.1, ⟨hk.1.2.1, ⟨hk.2, ⟨hk.1.2.2.1, ⟨hk.1.2.2.2.1, ⟨hk.1.2.2.2.2.1, hk.1.2.2.2.2.2⟩⟩⟩⟩⟩⟩))), (pB BK169.out), (pB BK170.out), (pB BK194.out), (by repeat (first | (with_reducible first | exact HB.out | apply below_alloc | apply pw_below_drewN | apply below_drew1 | refine below_set ?_ GE169.out | refine below_set ?_ GE170.out | refine below_set ?_ GE194.out) | exact HB.out))⟩)
          ·
           skip
           refine Kd.R_lit_step Kd.string _ 9 ?hg (N := 43) ?hd (xs := ([rdOf ByteArray.empty l1 x7_1] : List ByteArray)) (inner := [.string (rdOf ByteArray.empty l1 x7_1)]) (ok := fun _ => True) (okp := fun _ => True) ?hr ?hp (fun _ hk => hk) trivial (Below.refl _ _) (Nat.le_refl _) (by simp) ?_; (case hd => rfl); (case hg => rfl); (case hr => first | (go_simp; done) | (go_simp; rfl)); (case hp => exact (Reps.one (show Kd.M Kd.string _ _ _ (rdOf ByteArray.empty l1 x7_1) [.string (rdOf ByteArray.empty l1 x7_1)] from rfl) (Reps.none _ _)))
           intro v206 w42 ho43 hb hg_ hnew_
           clear hg_ hnew_
           (first | rw [← Ny205.out] at ho43 | (simp only [Int.reduceToNat] at ho43; rw [← Ny205.out] at ho43))
           have n0_ := Aside0.mk (Kd.V_elder' (Kd.pV HO_170002.out) (Kd.R_base ho43) hb)
           have n1_ := Aside0.mk (Kd.V_elder' (Kd.pV HO190.out) (Kd.R_base ho43) hb)
           have n2_ := Aside0.mk (Kd.V_elder' (Kd.pV HO193.out) (Kd.R_base ho43) hb)
           have n3_ := Aside0.mk (Kd.N_elder' (Kd.pN HO197.out) (Kd.R_base ho43) hb)
           have n4_ := Aside0.mk (Kd.R_lower (Kd.R_newM (M := fun k_ => (w.heap.size ≤ k_)) ho43 (below_size (by repeat (first | (with_reducible first | exact HB.out | apply below_alloc | apply pw_below_drewN | apply below_drew1 | refine below_set ?_ GE169.out | refine below_set ?_ GE170.out | refine below_set ?_ GE194.out) | exact HB.out))) (fun k_ h_ => h_)) (below_size (by repeat (first | (with_reducible first | exact HB.out | apply below_alloc | apply pw_below_drewN | apply below_drew1 | refine below_set ?_ GE169.out | refine below_set ?_ GE170.out | refine below_set ?_ GE194.out) | exact HB.out))))
           have n5_ := Aside0.mk (blk_below (g := gb169) (o := .cells #[.int .i64 t186, .string t187, .slice Ao37 t188.length co37] 39 (0, 0)) (pB BK169.out) hb)
           have n6_ := Aside0.mk (blk_below (g := gb170) (o := .cells #[.int .i64 0, .string (⟨#[]⟩ : ByteArray), .slice none 0 0] 39 (0, 0)) (pB BK170.out) hb)
           have n7_ := Aside0.mk (blk_below (g := gb194) (o := .cells #[.int .i64 t186, .string t187, .slice Ao37 t188.length co37] 39 (0, 0)) (pB BK194.out) hb)
           have n8_ := Aside0.mk (below_step (by repeat (first | (with_reducible first | exact HB.out | apply below_alloc | apply pw_below_drewN | apply below_drew1 | refine below_set ?_ GE169.out | refine below_set ?_ GE170.out | refine below_set ?_ GE194.out) | exact HB.out)) hb)
           clear HO_170002
           clear HO190
           clear HO193
           clear HO197
           clear BK169
           clear BK170
           clear BK194
           clear HB
           have HO_170002 := n0_
           have HO190 := n1_
           have HO193 := n2_
           have HO197 := n3_
           have HO207 := n4_
           have BK169 := n5_
           have BK170 := n6_
           have BK194 := n7_
           have HB := n8_
           clear n0_ n1_ n2_ n3_ n4_ n5_ n6_ n7_ n8_
           clear hb ho43
           refine hK.out _ _ ⟨(blk_cell BK169.out 0).trans rfl, (blk_cell BK169.out 1).trans rfl, (blk_cell BK169.out 2).trans rfl, ((HB.out.cell (World.block_lt_of_cell? w _ hw204_0)).trans (by first | exact hw204_0))⟩ (fun hHeld => ?_)
           clear hK K
           refine norm_ (a' := ?_) ?_ ?_
           rotate_left
           ·
            show Act.put _ (some 43) _ = _
            simp only [Act.put, List.setIfInBounds_toArray, List.set_cons_zero, List.set_cons_succ, i64_w, i32_w]
            rfl
           refine one_ (i := 0) (N := some 35) #[true, true, true, false, true, true, true, true, true, false, false, false] rfl rfl (one_of HT_.out (by kernel_rfl)) (by decide) (fun K hK => ?_)
           refine Kd.R_lit_step Kd.string _ 9 ?hg (N := 35) ?hd (xs := ([] : List ByteArray)) (inner := []) (ok := fun _ => True) (okp := fun _ => True) ?hr ?hp (fun _ hk => hk) trivial (Below.refl _ _) (Nat.le_refl _) (by simp) ?_; (case hd => rfl); (case hg => rfl); (case hr => first | (go_simp; done) | (go_simp; rfl)); (case hp => exact (Reps.none _ _))
           intro v199 w44 ho45 hb hg_ hnew_
           clear hg_ hnew_
           (first | rw [← Ny198.out] at ho45 | (simp only [Int.reduceToNat] at ho45; rw [← Ny198.out] at ho45))
           have n0_ := Aside0.mk (Kd.V_elder' (Kd.pV HO_170002.out) (Kd.R_base ho45) hb)
           have n1_ := Aside0.mk (Kd.V_elder' (Kd.pV HO190.out) (Kd.R_base ho45) hb)
           have n2_ := Aside0.mk (Kd.V_elder' (Kd.pV HO193.out) (Kd.R_base ho45) hb)
           have n3_ := Aside0.mk (Kd.N_elder' (Kd.pN HO197.out) (Kd.R_base ho45) hb)
           have n4_ := Aside0.mk (Kd.R_elder' (Kd.pR HO207.out) (Kd.R_base ho45) hb)
           have n5_ := Aside0.mk (Kd.R_lower (Kd.R_new' (Kd.R_newM (M := fun k_ => (w.heap.size ≤ k_)) ho45 (below_size (by repeat (first | (with_reducible first | exact HB.out | apply below_alloc | apply pw_below_drewN | apply below_drew1 | refine below_set ?_ GE169.out | refine below_set ?_ GE170.out | refine below_set ?_ GE194.out) | exact HB.out))) (fun k_ h_ => h_)) (Kd.R_lt (Kd.pR HO207.out))) (below_size (by repeat (first | (with_reducible first | exact HB.out | apply below_alloc | apply pw_below_drewN | apply below_drew1 | refine below_set ?_ GE169.out | refine below_set ?_ GE170.out | refine below_set ?_ GE194.out) | exact HB.out))))
           have n6_ := Aside0.mk (blk_below (g := gb169) (o := .cells #[.int .i64 t186, .string t187, .slice Ao37 t188.length co37] 39 (0, 0)) (pB BK169.out) hb)
           have n7_ := Aside0.mk (blk_below (g := gb170) (o := .cells #[.int .i64 0, .string (⟨#[]⟩ : ByteArray), .slice none 0 0] 39 (0, 0)) (pB BK170.out) hb)
           have n8_ := Aside0.mk (blk_below (g := gb194) (o := .cells #[.int .i64 t186, .string t187, .slice Ao37 t188.length co37] 39 (0, 0)) (pB BK194.out) hb)
           have n9_ := Aside0.mk (below_step (by repeat (first | (with_reducible first | exact HB.out | apply below_alloc | apply pw_below_drewN | apply below_drew1 | refine below_set ?_ GE169.out | refine below_set ?_ GE170.out | refine below_set ?_ GE194.out) | exact HB.out)) hb)
           clear HO_170002
           clear HO190
           clear HO193
           clear HO197
           clear HO207
           clear BK169
           clear BK170
           clear BK194
           clear HB
           have HO_170002 := n0_
           have HO190 := n1_
           have HO193 := n2_
           have HO197 := n3_
           have HO207 := n4_
           have HO200 := n5_
           have BK169 := n6_
           have BK170 := n7_
           have BK194 := n8_
           have HB := n9_
           clear n0_ n1_ n2_ n3_ n4_ n5_ n6_ n7_ n8_ n9_
           clear hb ho45
           refine hK.out _ _ ⟨(blk_cell BK169.out 0).trans rfl, (blk_cell BK169.out 1).trans rfl, (blk_cell BK169.out 2).trans rfl, ((HB.out.cell (World.block_lt_of_cell? w _ hw204_0)).trans (by first | exact hw204_0))⟩ (fun hHeld => ?_)
           clear hK K
           refine norm_ (a' := ?_) ?_ ?_
           rotate_left
           ·
            show Act.put _ (some 35) _ = _
            simp only [Act.put, List.setIfInBounds_toArray, List.set_cons_zero, List.set_cons_succ, i64_w, i32_w]
            rfl
           refine one_ (i := 3) (N := some 38) #[true, true, true, true, true, true, true, true, true, false, false, false] rfl rfl (one_of HT_.out (by kernel_rfl)) (by decide) (fun K hK => ?_)
           refine Kd.R_append_rows_step Kd.string (w0 := w) w.heap.size (by rfl) (.tmp 35) (.tmp 37) 37 9 (.string ⟨#[]⟩) 16 rfl Try.underlying37 info9 rfl (by decide) (by omega) v199 y198 t188 _ _ _ (fun k_ => (w.heap.size ≤ k_) ∧ some k_ ≠ (v206 : Value).ownBlock) (fun _ => False) rfl rfl ?aO ?aR (fun _ _ h => h) (fun _ h => h.elim) ?aF ?aB ?aS ?aL ?_
           (case aR => repeat (first | exact (Kd.V_reads' HO190.out).2.2 | (with_reducible refine Kd.C_alloc ?_ _) | (with_reducible refine Kd.C_drewN ?_ _) | (with_reducible refine Kd.C_drew ?_)))
           (case aB => exact (by repeat (first | (with_reducible first | exact HB.out | apply below_alloc | apply pw_below_drewN | apply below_drew1 | refine below_set ?_ GE169.out | refine below_set ?_ GE170.out | refine below_set ?_ GE194.out) | exact HB.out)))
           (case aF => exact (fun k_ hk => ⟨(Nat.le_trans (below_size (by repeat (first | (with_reducible first | exact HB.out | apply below_alloc | apply pw_below_drewN | apply below_drew1 | refine below_set ?_ GE169.out | refine below_set ?_ GE170.out | refine below_set ?_ GE194.out) | exact HB.out))) hk), Kd.fresh' (Kd.R_lt (Kd.pR HO207.out)) k_ hk⟩))
           (case aO => exact (Kd.pR (Kd.R_mono HO200.out (fun _ hk => ⟨hk.1.1, hk.2⟩))))
           (case aS => exact (below_size (by repeat (first | (with_reducible first | exact HB.out | apply below_alloc | apply pw_below_drewN | apply below_drew1 | refine below_set ?_ GE169.out | refine below_set ?_ GE170.out | refine below_set ?_ GE194.out) | exact HB.out))))
           (case aL => have := LMc26.out; omega)
           intro v202 w46 ho hb hg hat
           rw [← Ny201.out] at ho
           have n0_ := Aside0.mk (Kd.V_afterv (ok := (fun k_ => (P0_2_ k_ ∨ w.heap.size ≤ k_) ∧ some k_ ≠ (v196 : Value).ownBlock ∧ some k_ ≠ (v206 : Value).ownBlock ∧ k_ ≠ gb169 ∧ k_ ≠ gb170 ∧ k_ ≠ gb194)) (Kd.pV (Kd.V_mono HO_170002.out (fun _ hk => ⟨⟨hk.1.1.1.1, ⟨hk.1.1.2, ⟨hk.1.2, ⟨hk.1.1.1.2.1, ⟨hk.1.1.1.2.2.1, hk.1.1.1.2.2.2⟩⟩⟩⟩⟩, hk.2⟩))) hg hat)
           have n1_ := Aside0.mk (blk_grown (g := gb169) (o := .cells #[.int .i64 t186, .string t187, .slice Ao37 t188.length co37] 39 (0, 0)) (pB BK169.out) hg (Kd.R_ne HO200.out BK169.out (by decide)))
           have n2_ := Aside0.mk (blk_grown (g := gb170) (o := .cells #[.int .i64 0, .string (⟨#[]⟩ : ByteArray), .slice none 0 0] 39 (0, 0)) (pB BK170.out) hg (Kd.R_ne HO200.out BK170.out (by decide)))
           have n3_ := Aside0.mk (Kd.V_afterv (ok := (fun k_ => (P0_2_ k_ ∨ w.heap.size ≤ k_) ∧ some k_ ≠ (v196 : Value).ownBlock ∧ some k_ ≠ (v206 : Value).ownBlock ∧ k_ ≠ gb169 ∧ k_ ≠ gb170 ∧ k_ ≠ gb194)) (Kd.pV (Kd.V_mono HO190.out (fun _ hk => ⟨⟨hk.1.1.1.1, ⟨hk.1.1.2, ⟨hk.1.2, ⟨hk.1.1.1.2.1, ⟨hk.1.1.1.2.2.1, hk.1.1.1.2.2.2⟩⟩⟩⟩⟩, hk.2⟩))) hg hat)
           have n4_ := Aside0.mk (Kd.V_afterv (ok := (fun k_ => (P0_2_ k_ ∨ w.heap.size ≤ k_) ∧ some k_ ≠ (v196 : Value).ownBlock ∧ some k_ ≠ (v206 : Value).ownBlock ∧ k_ ≠ gb169 ∧ k_ ≠ gb170 ∧ k_ ≠ gb194)) (Kd.pV (Kd.V_mono HO193.out (fun _ hk => ⟨⟨hk.1.1.1.1, ⟨hk.1.1.2, ⟨hk.1.2, ⟨hk.1.1.1.2.1, ⟨hk.1.1.1.2.2.1, hk.1.1.1.2.2.2⟩⟩⟩⟩⟩, hk.2⟩))) hg hat)
           have n5_ := Aside0.mk (blk_grown (g := gb194) (o := .cells #[.int .i64 t186, .string t187, .slice Ao37 t188.length co37] 39 (0, 0)) (pB BK194.out) hg (Kd.R_ne HO200.out BK194.out (by decide)))
           have n6_ := Aside0.mk (Kd.N_afterv (ok := (fun k_ => (P0_2_ k_ ∨ w.heap.size ≤ k_) ∧ some k_ ≠ (v206 : Value).ownBlock ∧ k_ ≠ gb169 ∧ k_ ≠ gb170 ∧ k_ ≠ gb194)) (Kd.pN (Kd.N_mono HO197.out (fun _ hk => ⟨⟨hk.1.1.1, ⟨hk.1.2, ⟨hk.1.1.2.1, ⟨hk.1.1.2.2.1, hk.1.1.2.2.2⟩⟩⟩⟩, hk.2⟩))) hg hat)
           have n7_ := Aside0.mk (Kd.R_after (ok := (fun k_ => (w.heap.size ≤ k_))) (Kd.pR (Kd.R_mono HO207.out (fun _ hk => ⟨hk.1.1, hk.2⟩))) hg hat)
           have n8_ := Aside0.mk (hb)
           have n9_ := Aside0.mk (ho)
           clear HO_170002
           clear BK169
           clear BK170
           clear HO190
           clear HO193
           clear BK194
           clear HO197
           clear HO207
           clear HB
           clear HO200
           have HO_170002 := n0_
           have BK169 := n1_
           have BK170 := n2_
           have HO190 := n3_
           have HO193 := n4_
           have BK194 := n5_
           have HO197 := n6_
           have HO207 := n7_
           have HB := n8_
           have HO203 := n9_
           clear n0_ n1_ n2_ n3_ n4_ n5_ n6_ n7_ n8_ n9_
           clear ho hb hg hat
           refine hK.out _ _ ⟨(blk_cell BK169.out 0).trans rfl, (blk_cell BK169.out 1).trans rfl, (blk_cell BK169.out 2).trans rfl, ((HB.out.cell (World.block_lt_of_cell? w _ hw204_0)).trans (by first | exact hw204_0))⟩ (fun hHeld => ?_)
           clear hK K
           refine norm_ (a' := ?_) ?_ ?_
           rotate_left
           ·
            show Act.put _ (some 38) _ = _
            simp only [Act.put, List.setIfInBounds_toArray, List.set_cons_zero, List.set_cons_succ, i64_w, i32_w]
            rfl
           exact norm_ (by simp only [putAll, Act.put, List.setIfInBounds_toArray, List.set_cons_zero, List.set_cons_succ]) (hCont (v199, v202, v206) _ ⟨hHeld, (Kd.pV (Kd.V_mono HO190.out (fun _ hk => ⟨hk.1.1, ⟨hk.1.2.1, ⟨hk.2, ⟨hk.1.2.2.1, ⟨hk.1.2.2.2.1, ⟨hk.1.2.2.2.2.1, hk.1.2.2.2.2.2⟩⟩⟩⟩⟩⟩))), (Kd.pV (Kd.V_mono HO193.out (fun _ hk => ⟨hk.1.1, ⟨hk.1.2.1, ⟨hk.2, ⟨hk.1.2.2.1, ⟨hk.1.2.2.2.1, ⟨hk.1.2.2.2.2.1, hk.1.2.2.2.2.2⟩⟩⟩⟩⟩⟩))), (Kd.pN (Kd.N_mono HO197.out (fun _ hk => ⟨hk.1.1, ⟨hk.2, ⟨hk.1.2.1, ⟨hk.1.2.2.1, ⟨hk.1.2.2.2.1, hk.1.2.2.2.2⟩⟩⟩⟩⟩))), (Kd.pR HO203.out), (Kd.pR HO207.out), (Kd.pV (Kd.V_mono HO_170002.out (fun _ hk => ⟨hk.1.1, ⟨hk.1.2.1, ⟨hk.2, ⟨hk.1.2.2.1, ⟨hk.1.2.2.2.1, ⟨hk.1.2.2.2.2.1, hk.1.2.2.2.2.2⟩⟩⟩⟩⟩⟩))), (pB BK169.out), (pB BK170.out), (pB BK194.out), (by repeat (first | (with_reducible first | exact HB.out | apply below_alloc | apply pw_below_drewN | apply below_drew1 | refine below_set ?_ GE169.out | refine below_set ?_ GE170.out | refine below_set ?_ GE194.out) | exact HB.out))⟩)
         rintro ⟨v199, v202, v206⟩ w47 ⟨hS_, h0_, h1_, h2_, h3_, h4_, h5_, h6_, h7_, h8_, h9_⟩
         have n0_ : Aside0 (Kd.V Kd.string 9 w47 w.heap.size (fun k_ => (P0_2_ k_ ∨ w.heap.size ≤ k_) ∧ some k_ ≠ (v196 : Value).ownBlock ∧ some k_ ≠ (v202 : Value).ownBlock ∧ some k_ ≠ (v206 : Value).ownBlock ∧ k_ ≠ gb169 ∧ k_ ≠ gb170 ∧ k_ ≠ gb194) (.slice Ao37 t188.length co37) t188) := ⟨h0_⟩
         have n1_ : Aside0 (Kd.V k40 40 w47 w.heap.size (fun k_ => (P0_2_ k_ ∨ w.heap.size ≤ k_) ∧ some k_ ≠ (v196 : Value).ownBlock ∧ some k_ ≠ (v202 : Value).ownBlock ∧ some k_ ≠ (v206 : Value).ownBlock ∧ k_ ≠ gb169 ∧ k_ ≠ gb170 ∧ k_ ≠ gb194) (.slice Ao40 t191.length co40) t191) := ⟨h1_⟩
         have n2_ : Aside0 (Kd.N k40 40 w47 w.heap.size (fun k_ => (P0_2_ k_ ∨ w.heap.size ≤ k_) ∧ some k_ ≠ (v202 : Value).ownBlock ∧ some k_ ≠ (v206 : Value).ownBlock ∧ k_ ≠ gb169 ∧ k_ ≠ gb170 ∧ k_ ≠ gb194) v196 y195) := ⟨h2_⟩
         have n3_ : Aside0 (Kd.R Kd.string 9 w47 w.heap.size (fun k_ => (w.heap.size ≤ k_) ∧ some k_ ≠ (v206 : Value).ownBlock) v202 y201) := ⟨h3_⟩
         have n4_ : Aside0 (Kd.R Kd.string 9 w47 w.heap.size (fun k_ => (w.heap.size ≤ k_) ∧ some k_ ≠ (v202 : Value).ownBlock) v206 y205) := ⟨h4_⟩
         have n5_ : Aside0 (Kd.V Kd.string 9 w47 w.heap.size (fun k_ => (P0_2_ k_ ∨ w.heap.size ≤ k_) ∧ some k_ ≠ (v196 : Value).ownBlock ∧ some k_ ≠ (v202 : Value).ownBlock ∧ some k_ ≠ (v206 : Value).ownBlock ∧ k_ ≠ gb169 ∧ k_ ≠ gb170 ∧ k_ ≠ gb194) (.slice Ao29 x170002_1.length co29) x170002_1) := ⟨h5_⟩
         have n6_ : Aside0 (w47.heap[gb169]? = some (.cells #[.int .i64 t186, .string t187, .slice Ao37 t188.length co37] 39 (0, 0))) := ⟨h6_⟩
         have n7_ : Aside0 (w47.heap[gb170]? = some (.cells #[.int .i64 0, .string (⟨#[]⟩ : ByteArray), .slice none 0 0] 39 (0, 0))) := ⟨h7_⟩
         have n8_ : Aside0 (w47.heap[gb194]? = some (.cells #[.int .i64 t186, .string t187, .slice Ao37 t188.length co37] 39 (0, 0))) := ⟨h8_⟩
         have n9_ : Aside0 (Below w.heap.size w w47) := ⟨h9_⟩
         clear HO_170002
         clear HO190
         clear HO193
         clear HO197
         clear BK169
         clear BK170
         clear BK194
         clear HB
         clear h0_ h1_ h2_ h3_ h4_ h5_ h6_ h7_ h8_ h9_
         have HO190 := n0_
         have HO193 := n1_
         have HO197 := n2_
         have HO203 := n3_
         have HO207 := n4_
         have HO_170002 := n5_
         have BK169 := n6_
         have BK170 := n7_
         have BK194 := n8_
         have HB := n9_
         clear n0_ n1_ n2_ n3_ n4_ n5_ n6_ n7_ n8_ n9_
         have hHeld : w47.cell? ⟨gb169, 0, none⟩ = some (.int .i64 t186) ∧ w47.cell? ⟨gb169, 1, none⟩ = some (.string t187) ∧ w47.cell? ⟨gb169, 2, none⟩ = some (.slice Ao37 t188.length co37) ∧ w47.cell? (ad171.add (x7_1).toNat) = some (.string (rdOf ByteArray.empty l1 x7_1)) := hS_
         obtain ⟨Ao49, co49, eo49⟩ := Kd.R_slice HO207.out
         (first | subst eo49 | (injection eo49 with f1_ f2_ f3_; have f4_ := f1_.symm; have f5_ := f3_.symm; clear f1_ f2_ f3_; subst f4_; subst f5_))
         refine norm_ (a' := ?_) ?_ ?_
         rotate_left
         ·
          simp only [putAll, Act.put, List.setIfInBounds_toArray, List.set_cons_zero, List.set_cons_succ]
          rfl
         refine one_ (i := 9) (N := some 44) #[true, true, true, true, true, true, true, true, true, true, false, false] rfl rfl (one_of HT_.out (by kernel_rfl)) (by decide) (fun K hK => ?_)
         refine Kd.R_append_rows_step Kd.string (w0 := w) w.heap.size (by rfl) (.tmp 38) (.tmp 43) 37 9 (.string ⟨#[]⟩) 16 rfl Try.underlying37 info9 rfl (by decide) (by omega) v202 y201 y205 _ _ _ (fun k_ => (w.heap.size ≤ k_) ∧ some k_ ≠ (.slice Ao49 y205.length co49 : Value).ownBlock) (fun _ => False) rfl rfl ?aO ?aR (fun _ _ h => h) (fun _ h => h.elim) ?aF ?aB ?aS ?aL ?_
         (case aR => repeat (first | exact (Kd.R_reads' HO207.out).2.2 | (with_reducible refine Kd.C_alloc ?_ _) | (with_reducible refine Kd.C_drewN ?_ _) | (with_reducible refine Kd.C_drew ?_)))
         (case aB => exact (by repeat (first | (with_reducible first | exact HB.out | apply below_alloc | apply pw_below_drewN | apply below_drew1 | refine below_set ?_ GE169.out | refine below_set ?_ GE170.out | refine below_set ?_ GE194.out) | exact HB.out)))
         (case aF => exact (fun k_ hk => ⟨(Nat.le_trans (below_size (by repeat (first | (with_reducible first | exact HB.out | apply below_alloc | apply pw_below_drewN | apply below_drew1 | refine below_set ?_ GE169.out | refine below_set ?_ GE170.out | refine below_set ?_ GE194.out) | exact HB.out))) hk), Kd.fresh' (Kd.R_lt (Kd.pR HO207.out)) k_ hk⟩))
         (case aO => exact (Kd.pR HO203.out))
         (case aS => exact (below_size (by repeat (first | (with_reducible first | exact HB.out | apply below_alloc | apply pw_below_drewN | apply below_drew1 | refine below_set ?_ GE169.out | refine below_set ?_ GE170.out | refine below_set ?_ GE194.out) | exact HB.out))))
         (case aL => have := LMc27.out; omega)
         intro v209 w48 ho hb hg hat
         rw [← Ny208.out] at ho
         have n0_ := Aside0.mk (Kd.V_afterv (ok := (fun k_ => (P0_2_ k_ ∨ w.heap.size ≤ k_) ∧ some k_ ≠ (v196 : Value).ownBlock ∧ some k_ ≠ (.slice Ao49 y205.length co49 : Value).ownBlock ∧ k_ ≠ gb169 ∧ k_ ≠ gb170 ∧ k_ ≠ gb194)) (Kd.pV (Kd.V_mono HO_170002.out (fun _ hk => ⟨⟨hk.1, ⟨hk.2.1, ⟨hk.2.2.2.1, ⟨hk.2.2.2.2.1, ⟨hk.2.2.2.2.2.1, hk.2.2.2.2.2.2⟩⟩⟩⟩⟩, hk.2.2.1⟩))) hg hat)
         have n1_ := Aside0.mk (blk_grown (g := gb169) (o := .cells #[.int .i64 t186, .string t187, .slice Ao37 t188.length co37] 39 (0, 0)) (pB BK169.out) hg (Kd.R_ne HO203.out BK169.out (by decide)))
         have n2_ := Aside0.mk (blk_grown (g := gb170) (o := .cells #[.int .i64 0, .string (⟨#[]⟩ : ByteArray), .slice none 0 0] 39 (0, 0)) (pB BK170.out) hg (Kd.R_ne HO203.out BK170.out (by decide)))
         have n3_ := Aside0.mk (Kd.V_afterv (ok := (fun k_ => (P0_2_ k_ ∨ w.heap.size ≤ k_) ∧ some k_ ≠ (v196 : Value).ownBlock ∧ some k_ ≠ (.slice Ao49 y205.length co49 : Value).ownBlock ∧ k_ ≠ gb169 ∧ k_ ≠ gb170 ∧ k_ ≠ gb194)) (Kd.pV (Kd.V_mono HO190.out (fun _ hk => ⟨⟨hk.1, ⟨hk.2.1, ⟨hk.2.2.2.1, ⟨hk.2.2.2.2.1, ⟨hk.2.2.2.2.2.1, hk.2.2.2.2.2.2⟩⟩⟩⟩⟩, hk.2.2.1⟩))) hg hat)
         have n4_ := Aside0.mk (Kd.V_afterv (ok := (fun k_ => (P0_2_ k_ ∨ w.heap.size ≤ k_) ∧ some k_ ≠ (v196 : Value).ownBlock ∧ some k_ ≠ (.slice Ao49 y205.length co49 : Value).ownBlock ∧ k_ ≠ gb169 ∧ k_ ≠ gb170 ∧ k_ ≠ gb194)) (Kd.pV (Kd.V_mono HO193.out (fun _ hk => ⟨⟨hk.1, ⟨hk.2.1, ⟨hk.2.2.2.1, ⟨hk.2.2.2.2.1, ⟨hk.2.2.2.2.2.1, hk.2.2.2.2.2.2⟩⟩⟩⟩⟩, hk.2.2.1⟩))) hg hat)
         have n5_ := Aside0.mk (blk_grown (g := gb194) (o := .cells #[.int .i64 t186, .string t187, .slice Ao37 t188.length co37] 39 (0, 0)) (pB BK194.out) hg (Kd.R_ne HO203.out BK194.out (by decide)))
         have n6_ := Aside0.mk (Kd.N_afterv (ok := (fun k_ => (P0_2_ k_ ∨ w.heap.size ≤ k_) ∧ some k_ ≠ (.slice Ao49 y205.length co49 : Value).ownBlock ∧ k_ ≠ gb169 ∧ k_ ≠ gb170 ∧ k_ ≠ gb194)) (Kd.pN (Kd.N_mono HO197.out (fun _ hk => ⟨⟨hk.1, ⟨hk.2.2.1, ⟨hk.2.2.2.1, ⟨hk.2.2.2.2.1, hk.2.2.2.2.2⟩⟩⟩⟩, hk.2.1⟩))) hg hat)
         have n7_ := Aside0.mk (Kd.R_after (ok := (fun k_ => (w.heap.size ≤ k_))) (Kd.pR HO207.out) hg hat)
         have n8_ := Aside0.mk (hb)
         have n9_ := Aside0.mk (ho)
         clear HO_170002
         clear BK169
         clear BK170
         clear HO190
         clear HO193
         clear BK194
         clear HO197
         clear HO207
         clear HB
         clear HO203
         have HO_170002 := n0_
         have BK169 := n1_
         have BK170 := n2_
         have HO190 := n3_
         have HO193 := n4_
         have BK194 := n5_
         have HO197 := n6_
         have HO207 := n7_
         have HB := n8_
         have HO210 := n9_
         clear n0_ n1_ n2_ n3_ n4_ n5_ n6_ n7_ n8_ n9_
         clear ho hb hg hat
         obtain ⟨Ao50, co50, eo50⟩ := Kd.R_slice HO210.out
         (first | subst eo50 | (injection eo50 with f1_ f2_ f3_; have f4_ := f1_.symm; have f5_ := f3_.symm; clear f1_ f2_ f3_; subst f4_; subst f5_))
         refine hK.out _ _ ⟨(blk_cell BK169.out 0).trans rfl, (blk_cell BK169.out 1).trans rfl, (blk_cell BK169.out 2).trans rfl, ((HB.out.cell (World.block_lt_of_cell? w _ hw204_0)).trans (by first | exact hw204_0))⟩ (fun hHeld => ?_)
         clear hK K
         refine norm_ (a' := ?_) ?_ ?_
         rotate_left
         ·
          show Act.put _ (some 44) _ = _
          simp only [Act.put, List.setIfInBounds_toArray, List.set_cons_zero, List.set_cons_succ, i64_w, i32_w]
          rfl
         refine pure_ (i := 10) (N := some 45) (v := ?_) (a' := ?_) #[true, true, true, true, true, true, true, true, true, true, true, false] rfl rfl (any_of HT_.out (by kernel_rfl)) (fun _ _ _ h => h) (Or.inl ⟨by rfl, ?_⟩) ?_ ?_
         rotate_left
         ·
          intro w'
          go_simp
          with_reducible rfl
         rotate_left
         ·
          simp only [Act.put, List.setIfInBounds_toArray, List.set_cons_zero, List.set_cons_succ, i64_w, i32_w]
          rfl
         refine last_ (i := 11) (N := none) #[true, true, true, true, true, true, true, true, true, true, true, true] rfl rfl (one_of HT_.out (by kernel_rfl)) (by decide) (fun K hK => ?_)
         have hs51 : w48.cell? ⟨gb169, 2, none⟩ = some (.slice Ao37 t188.length co37) := (blk_cell BK169.out 2).trans rfl
         have hfs51 := blk_frozen BK169.out 2
         have hns51_1 := NB170_169.out
         have hns51_2 := NB194_169.out
         have hms51_1 := NB169_170.out
         have hms51_2 := NB169_194.out
         refine skip_ (w1 := ?_) (by rfl) rfl ?_ ?_
         rotate_left
         ·
          go_simp
          rfl
         refine hK.out _ _ ?_
         clear hK K
         refine done_ (done_of HT_.out (by kernel_rfl)) ?_
         try go_wp2
         go_roundg k1
         case measure => have := HK1.out; omega
         case rel => exact ⟨(y195), (wrap64 (x7_1 + 1)), (t186), (t187), (y208), (.slice Ao50 y208.length co50), (by first | rfl | (simp; done) | (simp [*]; done)), H', ⟨by have := HK1.out; omega⟩, ⟨by (with_reducible repeat (first | apply Kd.N_alloc | apply Kd.N_drewN | apply Kd.N_drew)); exact Kd.N_mono (Kd.N_far (p := ⟨gb169, 2, none⟩) (Kd.N_mono HO197.out (fun k_ hk => (⟨hk, hk.1.2.2.1⟩ : _ ∧ k_ ≠ gb169))) (fun _ hk => hk.2) (.slice Ao50 y208.length co50)) (fun _ hk => ⟨hk.1.1.1, ⟨hk.1.1.2.2.1, hk.1.1.2.2.2.1⟩⟩)⟩, ⟨Kd.V_mono (Kd.R_V (Kd.pR (Kd.R_mono (Kd.R_far (p := ⟨gb169, 2, none⟩) (Kd.R_types (Kd.R_types (Kd.R_types (Kd.R_apart' HO210.out (Kd.N_typed HO197.out) (by decide)) BK169.out (by decide)) BK170.out (by decide)) BK169.out (by decide)) (fun _ hk => hk.2) (.slice Ao50 y208.length co50)) (fun _ hk => (⟨hk.1.1.1.1.1, ⟨hk.1.1.1.2, ⟨hk.1.1.2, hk.1.2⟩⟩⟩ : _ ∧ (_ ∧ (_ ∧ _))))))) (fun k_ hk => by first | exact ⟨(.inr (hk.1)), hk.2⟩ | exact (.inr (hk)))⟩, ⟨by (with_reducible repeat (first | refine blk_drewN ?_ _ | refine blk_drew ?_ | refine blk_alloc ?_ _)); refine blk_put (cs := #[.int .i64 t186, .string t187, .slice Ao37 t188.length co37]) ?_ 2 _ rfl; (with_reducible repeat (first | refine blk_drewN ?_ _ | refine blk_drew ?_ | refine blk_alloc ?_ _)); exact BK169.out⟩, ⟨by (with_reducible repeat (first | refine blk_drewN ?_ _ | refine blk_drew ?_ | refine blk_alloc ?_ _)); refine blk_far ?_ NB170_169.out _; (with_reducible repeat (first | refine blk_drewN ?_ _ | refine blk_drew ?_ | refine blk_alloc ?_ _)); exact BK170.out⟩, ⟨by repeat (first | (with_reducible first | exact HB.out | apply below_alloc | apply pw_below_drewN | apply below_drew1 | refine below_set ?_ GE169.out | refine below_set ?_ GE170.out | refine below_set ?_ GE194.out) | exact HB.out)⟩⟩
        ·
         rw [if_neg c27] at H
         exact absurd H (by simp)
       ·
        rw [if_neg c26] at H
        exact absurd H (by simp)
      ·
       rw [if_neg c25] at H
       exact absurd H (by simp)
    ·
     rw [if_neg c6] at H
     exact absurd H (by simp)
   ·
    rw [if_neg c5] at H
    have c5b0 : decide (x7_1 < (l1.length : Int)) = false := decide_eq_false c5
    clear c5
    simp only [Option.some.injEq, Prod.mk.injEq] at H
    obtain ⟨rfl, rfl, rfl, rfl⟩ := H
    have hnb52 := NB169_170.out
    have hnc52 := NB170_169.out
    have hcz53_0 : wr.cell? ⟨gb169, 0, none⟩ = some (.int .i64 x170000_1) := (blk_cell BK169.out 0).trans rfl
    have hcz53_1 : wr.cell? ⟨gb169, 1, none⟩ = some (.string x170001_1) := (blk_cell BK169.out 1).trans rfl
    have hcz53_2 : wr.cell? ⟨gb169, 2, none⟩ = some (u170002) := (blk_cell BK169.out 2).trans rfl
    have hfz53_0 := blk_frozen BK169.out 0
    have hfz53_1 := blk_frozen BK169.out 1
    have hfz53_2 := blk_frozen BK169.out 2
    have hcz54_0 : wr.cell? ⟨gb170, 0, none⟩ = some (.int .i64 0) := (blk_cell BK170.out 0).trans rfl
    have hcz54_1 : wr.cell? ⟨gb170, 1, none⟩ = some (.string (⟨#[]⟩ : ByteArray)) := (blk_cell BK170.out 1).trans rfl
    have hcz54_2 : wr.cell? ⟨gb170, 2, none⟩ = some (.slice none 0 0) := (blk_cell BK170.out 2).trans rfl
    have hfz54_0 := blk_frozen BK170.out 0
    have hfz54_1 := blk_frozen BK170.out 1
    have hfz54_2 := blk_frozen BK170.out 2
    obtain ⟨Ao55, co55, eo55⟩ := Kd.V_slice HO_170002.out
    subst eo55
    go_wp2
    refine bodyPost_ret (results_ct rfl _ _ gb170 39 #[.int .i64 x170000_1, .string x170001_1, .slice Ao55 x170002_1.length co55] (0, 0) _ rfl (by (with_reducible repeat (first | refine blk_drewN ?_ _ | refine blk_drew ?_ | refine blk_alloc ?_ _)); refine blk_put (cs := #[.int .i64 x170000_1, .string x170001_1, .slice none 0 0]) ?_ 2 _ rfl; (with_reducible repeat (first | refine blk_drewN ?_ _ | refine blk_drew ?_ | refine blk_alloc ?_ _)); refine blk_put (cs := #[.int .i64 x170000_1, .string (⟨#[]⟩ : ByteArray), .slice none 0 0]) ?_ 1 _ rfl; (with_reducible repeat (first | refine blk_drewN ?_ _ | refine blk_drew ?_ | refine blk_alloc ?_ _)); refine blk_put (cs := #[.int .i64 0, .string (⟨#[]⟩ : ByteArray), .slice none 0 0]) ?_ 0 _ rfl; (with_reducible repeat (first | refine blk_drewN ?_ _ | refine blk_drew ?_ | refine blk_alloc ?_ _)); exact BK170.out) Try.underlying39 rfl (by kernel_rfl)) rfl ?_
    exact ⟨_, _, by first | rfl | (simp [errW_none, errW_some] <;> rfl) | (simp [*, errW_none, errW_some] <;> rfl), by (with_reducible repeat (first | apply Kd.V_alloc | apply Kd.V_drewN | apply Kd.V_drew)); exact Kd.V_mono (Kd.V_far (p := ⟨gb170, 2, none⟩) (Kd.V_far (p := ⟨gb170, 1, none⟩) (Kd.V_far (p := ⟨gb170, 0, none⟩) (Kd.V_mono HO_170002.out (fun k_ hk => (⟨hk, hk.2.2.2⟩ : _ ∧ k_ ≠ gb170))) (fun _ hk => hk.2) (.int .i64 x170000_1)) (fun _ hk => hk.2) (.string x170001_1)) (fun _ hk => hk.2) (.slice Ao55 x170002_1.length co55)) (fun _ hk => ⟨hk.1.1, hk.1.2.1⟩), by (with_reducible repeat (first | apply Kd.N_alloc | apply Kd.N_drewN | apply Kd.N_drew)); exact Kd.N_mono (Kd.N_far (p := ⟨gb170, 2, none⟩) (Kd.N_far (p := ⟨gb170, 1, none⟩) (Kd.N_far (p := ⟨gb170, 0, none⟩) (Kd.N_mono HO_6.out (fun k_ hk => (⟨hk, hk.2.2⟩ : _ ∧ k_ ≠ gb170))) (fun _ hk => hk.2) (.int .i64 x170000_1)) (fun _ hk => hk.2) (.string x170001_1)) (fun _ hk => hk.2) (.slice Ao55 x170002_1.length co55)) (fun _ hk => hk.1.1), by repeat (first | (with_reducible first | exact HB.out | apply below_alloc | apply pw_below_drewN | apply below_drew1 | refine below_set ?_ GE169.out | refine below_set ?_ GE170.out) | exact HB.out)⟩

end Go.Proofs.Ytefdokolbdnjnaa.PCutFeeds
