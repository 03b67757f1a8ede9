-- written by a program of this session (pp.py), out of the kit's print and this session's contracts
import Derived.Test.YtokkkeepifpbpaaPShareHidesx0
import Derived.Test.YtokkkeepifpbpaaPShareHidesx1
import Derived.Test.YtokkkeepifpbpaaPShareHidesx2
import Derived.Test.YtokkkeepifpbpaaPShareHidesx3
import Derived.Test.YtokkkeepifpbpaaPShareHidesx4
namespace Go.Proofs.Ytokkkeepifpbpaa.PShareHides
open Go.RowKit Go.Proofs.YtokkkeepifpbpaaW.PrintWords Go.Proofs.YtokkkeepifpbpaaW.PrintLast Go.Proofs.YtokkkeepifpbpaaW.PrintMore
attribute [local go_sem] max2_int min2_int max_two min_two max_three min_three max_four min_four   -- for this text's walks alone
set_option linter.unusedVariables false
set_option linter.unusedSimpArgs false

attribute [local go_sem high] eqA23
/-! ### selvedgelaw04_ShareHides: function 19 -/
mutual
def selvedgelaw04_ShareHides.j0 : Nat → List (S23) → Bool → List Int → Int → Bool → Int → Int → Option (Bool)
  | 0, _, _, _, _, _, _, _ => none
  | k + 1, x0, x7, x8, x11, x58, x176000, x176001 => if x58 = true then (some x7) else (selvedgelaw04_ShareHides.l0 k x0 x8 x11 ([] : List (S43)) 0 x176000 x176001)
def selvedgelaw04_ShareHides.l0 : Nat → List (S23) → List Int → Int → List (S43) → Int → Int → Int → Option (Bool)
  | 0, _, _, _, _, _, _, _ => none
  | k + 1, x0, x8, x11, x12, x13, x176000, x176001 => if (wrap64 (x13 + 1)) < x11 then (if 0 ≤ x13 then (if x13 < (x8.length : Int) then ((share_Of.f x0 (rd x8 x13)).bind fun bt183 => (if x12.length < 5864062014805 then (selvedgelaw04_ShareHides.l0 k x0 x8 x11 (x12 ++ [(⟨bt183.1, (⟨bt183.2.1, bt183.2.2.1⟩ : S23)⟩ : S43)]) (wrap64 (x13 + 1)) x176000 x176001) else (none))) else (none)) else (none)) else (if 0 ≤ (wrap64 (x11 - 1)) then (if (wrap64 (x11 - 1)) < (x8.length : Int) then ((some (([] : List (S43)) : List (S43))).bind fun y193 => (if y193.length + x12.length < 5864062014805 then ((some (y193 ++ x12 : List (S43))).bind fun y196 => (if y196.length < 5864062014805 then ((some (y196 ++ [(⟨rd x8 (wrap64 (x11 - 1)), (⟨0, 0⟩ : S23)⟩ : S43)] : List (S43))).bind fun y199 => ((share_Open.f y199).bind fun bt202 => ((share_Weight.f k y199 (wrap64 (x11 - 1))).bind fun bt206 => ((selvedgeref03_Inv.f k bt206.1 bt206.2.1).bind fun bt210 => (if bt202.2.2 = 0 then (if bt206.2.2 = 0 then (selvedgelaw04_ShareHides.j2 k x11 y199 (bt210.2.2 != 0) x176000 x176001 bt202.1 bt202.2.1 bt210.1 bt210.2.1) else (selvedgelaw04_ShareHides.j2 k x11 y199 true x176000 x176001 bt202.1 bt202.2.1 bt210.1 bt210.2.1)) else (selvedgelaw04_ShareHides.j2 k x11 y199 true x176000 x176001 bt202.1 bt202.2.1 bt210.1 bt210.2.1)))))) else (none))) else (none))) else (none)) else (none))
def selvedgelaw04_ShareHides.j2 : Nat → Int → List (S43) → Bool → Int → Int → Int → Int → Int → Int → Option (Bool)
  | 0, _, _, _, _, _, _, _, _, _ => none
  | k + 1, x11, x17, x118, x176000, x176001, x206000, x206001, x214000, x214001 => if x118 = true then (some false) else ((selvedgeref03_Sub.f x176000 x176001 x206000 x206001).bind fun bt214 => ((selvedgeref03_Mul.f bt214.1 bt214.2 x214000 x214001).bind fun bt216 => (if 0 ≤ (wrap64 (x11 - 1)) then (if (wrap64 (x11 - 1)) < (x17.length : Int) then ((share_Open.f (x17.set ((wrap64 (x11 - 1)) : Int).toNat (⟨(rd_T43 x17 (wrap64 (x11 - 1))).f0, (⟨bt216.1, bt216.2⟩ : S23)⟩ : S43))).bind fun bt219 => (if bt219.2.2 = 0 then (some (bt219.1 == x176000 && (bt219.2.1 == x176001))) else (some false))) else (none)) else (none))))
end
def selvedgelaw04_ShareHides.f (k : Nat) (l0 : List (S23)) (l1 : List Int) (a2_0 : Int) (a2_1 : Int) : Option (Bool) := (selvedgelaw04_shown.f).bind fun t176 => ((selvedgelaw04_distinct.f k l1).bind fun t177 => ((selvedgelaw04_right.f k l0).bind fun t180 => ((selvedgeref03_May.f a2_0 a2_1).bind fun t181 => (if t176 = true then (if t180 = true then (if t181 = true then (if (l0.length : Int) < 2 then (selvedgelaw04_ShareHides.j0 k l0 t176 t177 (l0.length : Int) true a2_0 a2_1) else (if (l0.length : Int) > 12 then (selvedgelaw04_ShareHides.j0 k l0 t176 t177 (l0.length : Int) true a2_0 a2_1) else (selvedgelaw04_ShareHides.j0 k l0 t176 t177 (l0.length : Int) (decide ((t177.length : Int) < (l0.length : Int))) a2_0 a2_1))) else (selvedgelaw04_ShareHides.j0 k l0 t176 t177 (l0.length : Int) true a2_0 a2_1)) else (selvedgelaw04_ShareHides.j0 k l0 t176 t177 (l0.length : Int) true a2_0 a2_1)) else (selvedgelaw04_ShareHides.j0 k l0 t176 t177 (l0.length : Int) true a2_0 a2_1)))))
theorem selvedgelaw04_ShareHides.mono_l : ∀ k, (∀ y0 y1 y2 y3 y4 y5 y6, LeO (selvedgelaw04_ShareHides.j0 k y0 y1 y2 y3 y4 y5 y6) (selvedgelaw04_ShareHides.j0 (k + 1) y0 y1 y2 y3 y4 y5 y6)) ∧ (∀ y0 y1 y2 y3 y4 y5 y6, LeO (selvedgelaw04_ShareHides.l0 k y0 y1 y2 y3 y4 y5 y6) (selvedgelaw04_ShareHides.l0 (k + 1) y0 y1 y2 y3 y4 y5 y6)) ∧ (∀ y0 y1 y2 y3 y4 y5 y6 y7 y8, LeO (selvedgelaw04_ShareHides.j2 k y0 y1 y2 y3 y4 y5 y6 y7 y8) (selvedgelaw04_ShareHides.j2 (k + 1) y0 y1 y2 y3 y4 y5 y6 y7 y8))
  | 0 => ⟨fun _ _ _ _ _ _ _ r h => by simp [selvedgelaw04_ShareHides.j0] at h, fun _ _ _ _ _ _ _ r h => by simp [selvedgelaw04_ShareHides.l0] at h, fun _ _ _ _ _ _ _ _ _ r h => by simp [selvedgelaw04_ShareHides.j2] at h⟩
  | k + 1 => by
    obtain ⟨ih0, ih1, ih2⟩ := selvedgelaw04_ShareHides.mono_l k
    refine ⟨?_, ?_, ?_⟩
    · intro y0 y1 y2 y3 y4 y5 y6
      unfold selvedgelaw04_ShareHides.j0
      repeat' first
      | (with_reducible exact ih0 _ _ _ _ _ _ _)
      | (with_reducible exact ih1 _ _ _ _ _ _ _)
      | (with_reducible exact ih2 _ _ _ _ _ _ _ _ _)
      | (with_reducible exact selvedgelaw04_distinct.mono _ _)
      | (with_reducible exact selvedgelaw04_right.mono _ _)
      | (with_reducible exact selvedgeref03_Inv.mono _ _ _)
      | (with_reducible exact share_Weight.mono _ _ _)
      | (with_reducible exact LeO.refl _)
      | (with_reducible exact LeO.none _)
      | (with_reducible refine LeO.ite ?_ ?_)
      | (with_reducible refine LeO.bind ?_ (fun _ => ?_))
      | exact ih0 _ _ _ _ _ _ _
      | exact ih1 _ _ _ _ _ _ _
      | exact ih2 _ _ _ _ _ _ _ _ _
      | exact selvedgelaw04_distinct.mono _ _
      | exact selvedgelaw04_right.mono _ _
      | exact selvedgeref03_Inv.mono _ _ _
      | exact share_Weight.mono _ _ _
      | exact LeO.none _
      | refine LeO.ite ?_ ?_
      | refine LeO.bind ?_ (fun _ => ?_)
    · intro y0 y1 y2 y3 y4 y5 y6
      unfold selvedgelaw04_ShareHides.l0
      repeat' first
      | (with_reducible exact ih0 _ _ _ _ _ _ _)
      | (with_reducible exact ih1 _ _ _ _ _ _ _)
      | (with_reducible exact ih2 _ _ _ _ _ _ _ _ _)
      | (with_reducible exact selvedgelaw04_distinct.mono _ _)
      | (with_reducible exact selvedgelaw04_right.mono _ _)
      | (with_reducible exact selvedgeref03_Inv.mono _ _ _)
      | (with_reducible exact share_Weight.mono _ _ _)
      | (with_reducible exact LeO.refl _)
      | (with_reducible exact LeO.none _)
      | (with_reducible refine LeO.ite ?_ ?_)
      | (with_reducible refine LeO.bind ?_ (fun _ => ?_))
      | exact ih0 _ _ _ _ _ _ _
      | exact ih1 _ _ _ _ _ _ _
      | exact ih2 _ _ _ _ _ _ _ _ _
      | exact selvedgelaw04_distinct.mono _ _
      | exact selvedgelaw04_right.mono _ _
      | exact selvedgeref03_Inv.mono _ _ _
      | exact share_Weight.mono _ _ _
      | exact LeO.none _
      | refine LeO.ite ?_ ?_
      | refine LeO.bind ?_ (fun _ => ?_)
    · intro y0 y1 y2 y3 y4 y5 y6 y7 y8
      unfold selvedgelaw04_ShareHides.j2
      repeat' first
      | (with_reducible exact ih0 _ _ _ _ _ _ _)
      | (with_reducible exact ih1 _ _ _ _ _ _ _)
      | (with_reducible exact ih2 _ _ _ _ _ _ _ _ _)
      | (with_reducible exact selvedgelaw04_distinct.mono _ _)
      | (with_reducible exact selvedgelaw04_right.mono _ _)
      | (with_reducible exact selvedgeref03_Inv.mono _ _ _)
      | (with_reducible exact share_Weight.mono _ _ _)
      | (with_reducible exact LeO.refl _)
      | (with_reducible exact LeO.none _)
      | (with_reducible refine LeO.ite ?_ ?_)
      | (with_reducible refine LeO.bind ?_ (fun _ => ?_))
      | exact ih0 _ _ _ _ _ _ _
      | exact ih1 _ _ _ _ _ _ _
      | exact ih2 _ _ _ _ _ _ _ _ _
      | exact selvedgelaw04_distinct.mono _ _
      | exact selvedgelaw04_right.mono _ _
      | exact selvedgeref03_Inv.mono _ _ _
      | exact share_Weight.mono _ _ _
      | exact LeO.none _
      | refine LeO.ite ?_ ?_
      | refine LeO.bind ?_ (fun _ => ?_)
theorem selvedgelaw04_ShareHides.mono : ∀ a0 a1 a2 a3 k, LeO (selvedgelaw04_ShareHides.f k a0 a1 a2 a3) (selvedgelaw04_ShareHides.f (k + 1) a0 a1 a2 a3) := by
  intro a0 a1 a2 a3 k
  obtain ⟨ih0, ih1, ih2⟩ := selvedgelaw04_ShareHides.mono_l k
  unfold selvedgelaw04_ShareHides.f
  repeat' first
      | (with_reducible exact ih0 _ _ _ _ _ _ _)
      | (with_reducible exact ih1 _ _ _ _ _ _ _)
      | (with_reducible exact ih2 _ _ _ _ _ _ _ _ _)
      | (with_reducible exact selvedgelaw04_distinct.mono _ _)
      | (with_reducible exact selvedgelaw04_right.mono _ _)
      | (with_reducible exact selvedgeref03_Inv.mono _ _ _)
      | (with_reducible exact share_Weight.mono _ _ _)
      | (with_reducible exact LeO.refl _)
      | (with_reducible exact LeO.none _)
      | (with_reducible refine LeO.ite ?_ ?_)
      | (with_reducible refine LeO.bind ?_ (fun _ => ?_))
      | exact ih0 _ _ _ _ _ _ _
      | exact ih1 _ _ _ _ _ _ _
      | exact ih2 _ _ _ _ _ _ _ _ _
      | exact selvedgelaw04_distinct.mono _ _
      | exact selvedgelaw04_right.mono _ _
      | exact selvedgeref03_Inv.mono _ _ _
      | exact share_Weight.mono _ _ _
      | exact LeO.none _
      | refine LeO.ite ?_ ?_
      | refine LeO.bind ?_ (fun _ => ?_)
def selvedgelaw04_ShareHides.T22 : Bool × List (List Nat × List Nat) := (true, [([], []), ([], []), ([1], [1]), ([], []), ([], []), ([3, 4], [3, 4]), ([], []), ([5, 6, 5], [5, 6]), ([0, 2, 0, 1, 2, 3, 4, 5, 6, 7], [0, 2]), ([8, 0, 1, 2, 3, 4, 5, 6, 7], [8]), ([9, 7, 7, 0, 1, 2, 3, 4, 5, 6, 7], [7, 9])])
def selvedgelaw04_ShareHides.B22 : List Nat := [0, 0, 2, 0, 0, 24, 0, 120, 255, 511, 1023]
theorem selvedgelaw04_ShareHides.tab22 : rtab .any (opsOf Try.f19 22) = selvedgelaw04_ShareHides.T22 := by kernel_rfl
theorem selvedgelaw04_ShareHides.bits22 : waitsOk selvedgelaw04_ShareHides.T22.2 selvedgelaw04_ShareHides.B22 = true := by kernel_rfl
set_option maxHeartbeats 8000000 in
set_option maxRecDepth 100000 in
theorem selvedgelaw04_ShareHides.calls (k : Nat) (A0 : Option Addr) (c0 : Nat) (l0 : List (S23)) (A1 : Option Addr) (c1 : Nat) (l1 : List Int) (a2_0 : Int) (a2_1 : Int) (r : Bool) (w : World) (hr0 : Kd.C k23 w A0 l0.length l0) (hc0 : l0.length ≤ c0) (hr1 : Kd.C (Kd.int .i64) w A1 l1.length l1) (hc1 : l1.length ≤ c1) (h : selvedgelaw04_ShareHides.f k l0 l1 a2_0 a2_1 = some r) :
    Calls Try.prog 19 #[.slice A0 l0.length c0, .slice A1 l1.length c1, .agg #[.int .i64 a2_0, .int .i64 a2_1]] w fun e w' => e = .returned (.bool r) ∧ Below w.heap.size w w' := by
  have hu23 := Try.underlying23
  have hu43 := Try.underlying43
  have HR0 := Aside0.mk hr0
  have HC0 := Aside0.mk hc0
  clear hr0 hc0
  have HR1 := Aside0.mk hr1
  have HC1 := Aside0.mk hc1
  clear hr1 hc1
  have HB := Aside0.mk (Below.refl w.heap.size w)
  have H : ((selvedgelaw04_shown.f).bind fun t176 => ((selvedgelaw04_distinct.f k l1).bind fun t177 => ((selvedgelaw04_right.f k l0).bind fun t180 => ((selvedgeref03_May.f a2_0 a2_1).bind fun t181 => (if t176 = true then (if t180 = true then (if t181 = true then (if (l0.length : Int) < 2 then (selvedgelaw04_ShareHides.j0 k l0 t176 t177 (l0.length : Int) true a2_0 a2_1) else (if (l0.length : Int) > 12 then (selvedgelaw04_ShareHides.j0 k l0 t176 t177 (l0.length : Int) true a2_0 a2_1) else (selvedgelaw04_ShareHides.j0 k l0 t176 t177 (l0.length : Int) (decide ((t177.length : Int) < (l0.length : Int))) a2_0 a2_1))) else (selvedgelaw04_ShareHides.j0 k l0 t176 t177 (l0.length : Int) true a2_0 a2_1)) else (selvedgelaw04_ShareHides.j0 k l0 t176 t177 (l0.length : Int) true a2_0 a2_1)) else (selvedgelaw04_ShareHides.j0 k l0 t176 t177 (l0.length : Int) true a2_0 a2_1)))))) = some r := h
  clear h
  replace H := Option.bind_eq_some_iff.mp H
  obtain ⟨t176, A40, H⟩ := H
  replace H : ((selvedgelaw04_distinct.f k l1).bind fun t177 => ((selvedgelaw04_right.f k l0).bind fun t180 => ((selvedgeref03_May.f a2_0 a2_1).bind fun t181 => (if t176 = true then (if t180 = true then (if t181 = true then (if (l0.length : Int) < 2 then (selvedgelaw04_ShareHides.j0 k l0 t176 t177 (l0.length : Int) true a2_0 a2_1) else (if (l0.length : Int) > 12 then (selvedgelaw04_ShareHides.j0 k l0 t176 t177 (l0.length : Int) true a2_0 a2_1) else (selvedgelaw04_ShareHides.j0 k l0 t176 t177 (l0.length : Int) (decide ((t177.length : Int) < (l0.length : Int))) a2_0 a2_1))) else (selvedgelaw04_ShareHides.j0 k l0 t176 t177 (l0.length : Int) true a2_0 a2_1)) else (selvedgelaw04_ShareHides.j0 k l0 t176 t177 (l0.length : Int) true a2_0 a2_1)) else (selvedgelaw04_ShareHides.j0 k l0 t176 t177 (l0.length : Int) true a2_0 a2_1))))) = some r := H
  have A4 := Aside0.mk A40
  clear A40
  replace H := Option.bind_eq_some_iff.mp H
  obtain ⟨t177, A50, H⟩ := H
  replace H : ((selvedgelaw04_right.f k l0).bind fun t180 => ((selvedgeref03_May.f a2_0 a2_1).bind fun t181 => (if t176 = true then (if t180 = true then (if t181 = true then (if (l0.length : Int) < 2 then (selvedgelaw04_ShareHides.j0 k l0 t176 t177 (l0.length : Int) true a2_0 a2_1) else (if (l0.length : Int) > 12 then (selvedgelaw04_ShareHides.j0 k l0 t176 t177 (l0.length : Int) true a2_0 a2_1) else (selvedgelaw04_ShareHides.j0 k l0 t176 t177 (l0.length : Int) (decide ((t177.length : Int) < (l0.length : Int))) a2_0 a2_1))) else (selvedgelaw04_ShareHides.j0 k l0 t176 t177 (l0.length : Int) true a2_0 a2_1)) else (selvedgelaw04_ShareHides.j0 k l0 t176 t177 (l0.length : Int) true a2_0 a2_1)) else (selvedgelaw04_ShareHides.j0 k l0 t176 t177 (l0.length : Int) true a2_0 a2_1)))) = some r := H
  have A5 := Aside0.mk A50
  clear A50
  replace H := Option.bind_eq_some_iff.mp H
  obtain ⟨t180, A60, H⟩ := H
  replace H : ((selvedgeref03_May.f a2_0 a2_1).bind fun t181 => (if t176 = true then (if t180 = true then (if t181 = true then (if (l0.length : Int) < 2 then (selvedgelaw04_ShareHides.j0 k l0 t176 t177 (l0.length : Int) true a2_0 a2_1) else (if (l0.length : Int) > 12 then (selvedgelaw04_ShareHides.j0 k l0 t176 t177 (l0.length : Int) true a2_0 a2_1) else (selvedgelaw04_ShareHides.j0 k l0 t176 t177 (l0.length : Int) (decide ((t177.length : Int) < (l0.length : Int))) a2_0 a2_1))) else (selvedgelaw04_ShareHides.j0 k l0 t176 t177 (l0.length : Int) true a2_0 a2_1)) else (selvedgelaw04_ShareHides.j0 k l0 t176 t177 (l0.length : Int) true a2_0 a2_1)) else (selvedgelaw04_ShareHides.j0 k l0 t176 t177 (l0.length : Int) true a2_0 a2_1))) = some r := H
  have A6 := Aside0.mk A60
  clear A60
  replace H := Option.bind_eq_some_iff.mp H
  obtain ⟨t181, A70, H⟩ := H
  replace H : (if t176 = true then (if t180 = true then (if t181 = true then (if (l0.length : Int) < 2 then (selvedgelaw04_ShareHides.j0 k l0 t176 t177 (l0.length : Int) true a2_0 a2_1) else (if (l0.length : Int) > 12 then (selvedgelaw04_ShareHides.j0 k l0 t176 t177 (l0.length : Int) true a2_0 a2_1) else (selvedgelaw04_ShareHides.j0 k l0 t176 t177 (l0.length : Int) (decide ((t177.length : Int) < (l0.length : Int))) a2_0 a2_1))) else (selvedgelaw04_ShareHides.j0 k l0 t176 t177 (l0.length : Int) true a2_0 a2_1)) else (selvedgelaw04_ShareHides.j0 k l0 t176 t177 (l0.length : Int) true a2_0 a2_1)) else (selvedgelaw04_ShareHides.j0 k l0 t176 t177 (l0.length : Int) true a2_0 a2_1)) = some r := H
  have A7 := Aside0.mk A70
  clear A70
  have HC8 := Aside0.mk H
  clear H
  go_enter Try.func19, Try.ntmps19
  go_upto_region 6 with (first | ((with_reducible refine gate_dst (N := 5) rfl ?_); (try (refine gate_guard (by rfl) ?_; dsimp only)); refine box_event ?hg (N := 5) ?hd (cs := #[.int .i64 a2_0, .int .i64 a2_1]) (t := 23) ?hr ?_; (case hd => rfl); (case hg => rfl); (case hr => first | (go_simp; done) | (go_simp; rfl)); intro gb175 hg w9 hbox hb; have n0_ := Aside0.mk (below_step (by repeat (first | (with_reducible first | exact HB.out | apply below_alloc | apply pw_below_drewN | apply below_drew1) | exact HB.out)) hb); have n1_ := Aside0.mk (hbox); have n2_ := Aside0.mk ((by rw [hg]; exact (below_size (by repeat (first | (with_reducible first | exact HB.out | apply below_alloc | apply pw_below_drewN | apply below_drew1) | exact HB.out))) : w.heap.size ≤ gb175)); have n3_ := Aside0.mk ((by rw [hg]; exact (below_size (by repeat (first | (with_reducible first | exact HB.out | apply below_alloc | apply pw_below_drewN | apply below_drew1) | exact HB.out))) : w.heap.size ≤ gb175)); clear HB; have HB := n0_; have BK175 := n1_; have GW175 := n2_; have GE175 := n3_; clear n0_ n1_ n2_ n3_; clear hb hbox hg) | ((with_reducible refine gate_callee (f := 38) rfl ?_); refine goesL_ (some 26) rfl rfl Try.func38 (by kernel_rfl) rfl #[] rfl (by (try simp only [List.map_toArray, List.map_cons, List.map_nil]); first | done | rfl | (simp only [List.length_drop, List.length_take]; rfl)) ?_; (with_reducible refine (selvedgelaw04_shown.calls  t176 _ A4.out).mono ?_); rintro e w10 ⟨rfl, hb⟩; refine ⟨_, rfl, ?_⟩; have n0_ := Aside0.mk (blk_below (g := gb175) (o := .cells #[.int .i64 a2_0, .int .i64 a2_1] 23 (0, 0)) (by (with_reducible repeat (first | refine blk_drewN ?_ _ | refine blk_drew ?_ | refine blk_alloc ?_ _)); exact BK175.out) hb); have n1_ := Aside0.mk (below_step (by repeat (first | (with_reducible first | exact HB.out | apply below_alloc | apply pw_below_drewN | apply below_drew1 | refine below_set ?_ GE175.out) | exact HB.out)) hb); clear BK175; clear HB; have BK175 := n0_; have HB := n1_; clear n0_ n1_; (try clear hb); (try clear hb2); (try clear hk); (try clear hi)) | ((with_reducible refine gate_callee (f := 43) rfl ?_); refine goesL_ (some 28) rfl rfl Try.func43 (by kernel_rfl) rfl #[.slice A1 l1.length c1] rfl (by (try simp only [List.map_toArray, List.map_cons, List.map_nil]); first | done | rfl | (simp only [List.length_drop, List.length_take]; rfl)) ?_; (with_reducible refine (selvedgelaw04_distinct.calls k _ _ l1 t177 _ ?side1 ?side2 A5.out).mono ?_); (case side1 => repeat (first | exact (Kd.C_below HR1.out HB.out) | (with_reducible refine Kd.C_alloc ?_ _) | (with_reducible refine Kd.C_drewN ?_ _) | (with_reducible refine Kd.C_drew ?_))); (case side2 => exact HC1.out); rintro e w11 ⟨v178, rfl, ho0, hb⟩; refine ⟨_, rfl, ?_⟩; have n0_ := Aside0.mk (Kd.R_lower ho0 (below_size (by repeat (first | (with_reducible first | exact HB.out | apply below_alloc | apply pw_below_drewN | apply below_drew1 | refine below_set ?_ GE175.out) | exact HB.out)))); have n1_ := Aside0.mk (blk_below (g := gb175) (o := .cells #[.int .i64 a2_0, .int .i64 a2_1] 23 (0, 0)) (by (with_reducible repeat (first | refine blk_drewN ?_ _ | refine blk_drew ?_ | refine blk_alloc ?_ _)); exact BK175.out) hb); have n2_ := Aside0.mk (below_step (by repeat (first | (with_reducible first | exact HB.out | apply below_alloc | apply pw_below_drewN | apply below_drew1 | refine below_set ?_ GE175.out) | exact HB.out)) hb); clear BK175; clear HB; have HO179 := n0_; have BK175 := n1_; have HB := n2_; clear n0_ n1_ n2_; (try clear hb); (try clear hb2); (try clear hk); (try clear hi); (try clear ho0)) | ((with_reducible refine gate_callee (f := 44) rfl ?_); refine goesL_ (some 30) rfl rfl Try.func44 (by kernel_rfl) rfl #[.slice A0 l0.length c0] rfl (by (try simp only [List.map_toArray, List.map_cons, List.map_nil]); first | done | rfl | (simp only [List.length_drop, List.length_take]; rfl)) ?_; (with_reducible refine (selvedgelaw04_right.calls k _ _ l0 t180 _ ?side1 ?side2 A6.out).mono ?_); (case side1 => repeat (first | exact (Kd.C_below HR0.out HB.out) | (with_reducible refine Kd.C_alloc ?_ _) | (with_reducible refine Kd.C_drewN ?_ _) | (with_reducible refine Kd.C_drew ?_))); (case side2 => exact HC0.out); rintro e w12 ⟨rfl, hb⟩; refine ⟨_, rfl, ?_⟩; have n0_ := Aside0.mk (Kd.R_below (by (with_reducible repeat (first | apply Kd.R_alloc | apply Kd.R_drewN | apply Kd.R_drew)); exact HO179.out) hb); have n1_ := Aside0.mk (blk_below (g := gb175) (o := .cells #[.int .i64 a2_0, .int .i64 a2_1] 23 (0, 0)) (by (with_reducible repeat (first | refine blk_drewN ?_ _ | refine blk_drew ?_ | refine blk_alloc ?_ _)); exact BK175.out) hb); have n2_ := Aside0.mk (below_step (by repeat (first | (with_reducible first | exact HB.out | apply below_alloc | apply pw_below_drewN | apply below_drew1 | refine below_set ?_ GE175.out) | exact HB.out)) hb); clear HO179; clear BK175; clear HB; have HO179 := n0_; have BK175 := n1_; have HB := n2_; clear n0_ n1_ n2_; (try clear hb); (try clear hb2); (try clear hk); (try clear hi); have hcz13_0 : w12.cell? ⟨gb175, 0, none⟩ = some (.int .i64 a2_0) := (blk_cell BK175.out 0).trans rfl; have hcz13_1 : w12.cell? ⟨gb175, 1, none⟩ = some (.int .i64 a2_1) := (blk_cell BK175.out 1).trans rfl; have hfz13_0 := blk_frozen BK175.out 0; have hfz13_1 := blk_frozen BK175.out 1) | ((with_reducible refine gate_callee (f := 30) rfl ?_); refine goesL_ (some 32) rfl rfl Try.func30 (by kernel_rfl) rfl #[.agg #[.int .i64 a2_0, .int .i64 a2_1]] rfl (by (try simp only [List.map_toArray, List.map_cons, List.map_nil]); first | done | rfl | (simp only [List.length_drop, List.length_take]; rfl)) ?_; (with_reducible refine (selvedgeref03_May.calls a2_0 a2_1 t181 _ A7.out).mono ?_); rintro e w14 ⟨rfl, hb⟩; refine ⟨_, rfl, ?_⟩; have n0_ := Aside0.mk (Kd.R_below (by (with_reducible repeat (first | apply Kd.R_alloc | apply Kd.R_drewN | apply Kd.R_drew)); exact HO179.out) hb); have n1_ := Aside0.mk (blk_below (g := gb175) (o := .cells #[.int .i64 a2_0, .int .i64 a2_1] 23 (0, 0)) (by (with_reducible repeat (first | refine blk_drewN ?_ _ | refine blk_drew ?_ | refine blk_alloc ?_ _)); exact BK175.out) hb); have n2_ := Aside0.mk (below_step (by repeat (first | (with_reducible first | exact HB.out | apply below_alloc | apply pw_below_drewN | apply below_drew1 | refine below_set ?_ GE175.out) | exact HB.out)) hb); clear HO179; clear BK175; clear HB; have HO179 := n0_; have BK175 := n1_; have HB := n2_; clear n0_ n1_ n2_; (try clear hb); (try clear hb2); (try clear hk); (try clear hi)))
  (try simp only [Act.put, List.setIfInBounds_toArray, List.set_cons_zero, List.set_cons_succ])
  go_cut [58] (fun v58 wc => ∃ (kq : Nat) (x58_7 : Bool), v58 = .bool x58_7 ∧ Aside0 (selvedgelaw04_ShareHides.j0 kq l0 t176 t177 (l0.length : Int) x58_7 a2_0 a2_1 = some r) ∧ Aside0 (kq ≤ k) ∧ Aside0 (Kd.R (Kd.int .i64) 3 wc w.heap.size (fun _ => True) v178 t177) ∧ Aside0 (wc.heap[gb175]? = some (.cells #[.int .i64 a2_0, .int .i64 a2_1] 23 (0, 0))) ∧ Aside0 (Below w.heap.size w wc))
  case first =>
    have H := HC8.out
    clear HC8
    by_cases c15 : t176 = true
    · subst c15
      have H1 : (if t180 = true then (if t181 = true then (if (l0.length : Int) < 2 then (selvedgelaw04_ShareHides.j0 k l0 true t177 (l0.length : Int) true a2_0 a2_1) else (if (l0.length : Int) > 12 then (selvedgelaw04_ShareHides.j0 k l0 true t177 (l0.length : Int) true a2_0 a2_1) else (selvedgelaw04_ShareHides.j0 k l0 true t177 (l0.length : Int) (decide ((t177.length : Int) < (l0.length : Int))) a2_0 a2_1))) else (selvedgelaw04_ShareHides.j0 k l0 true t177 (l0.length : Int) true a2_0 a2_1)) else (selvedgelaw04_ShareHides.j0 k l0 true t177 (l0.length : Int) true a2_0 a2_1)) = some r := by rw [if_pos rfl] at H; exact H
      clear H
      have H := H1
      clear H1
      by_cases c16 : t180 = true
      · subst c16
        have H1 : (if t181 = true then (if (l0.length : Int) < 2 then (selvedgelaw04_ShareHides.j0 k l0 true t177 (l0.length : Int) true a2_0 a2_1) else (if (l0.length : Int) > 12 then (selvedgelaw04_ShareHides.j0 k l0 true t177 (l0.length : Int) true a2_0 a2_1) else (selvedgelaw04_ShareHides.j0 k l0 true t177 (l0.length : Int) (decide ((t177.length : Int) < (l0.length : Int))) a2_0 a2_1))) else (selvedgelaw04_ShareHides.j0 k l0 true t177 (l0.length : Int) true a2_0 a2_1)) = some r := by rw [if_pos rfl] at H; exact H
        clear H
        have H := H1
        clear H1
        by_cases c17 : t181 = true
        · subst c17
          have H1 : (if (l0.length : Int) < 2 then (selvedgelaw04_ShareHides.j0 k l0 true t177 (l0.length : Int) true a2_0 a2_1) else (if (l0.length : Int) > 12 then (selvedgelaw04_ShareHides.j0 k l0 true t177 (l0.length : Int) true a2_0 a2_1) else (selvedgelaw04_ShareHides.j0 k l0 true t177 (l0.length : Int) (decide ((t177.length : Int) < (l0.length : Int))) a2_0 a2_1))) = some r := by rw [if_pos rfl] at H; exact H
          clear H
          have H := H1
          clear H1
          by_cases c18 : (l0.length : Int) < 2
          · rw [if_pos c18] at H
            have c18b0 : decide ((l0.length : Int) < 2) = true := decide_eq_true c18
            have c18b1 : decide (l0.length < 2) = true := decide_eq_true (by omega)
            clear c18
            (first | rw [c18b0] | (simp only [i64_w, i32_w]; rw [c18b0]) | skip)
            have H' := Aside0.mk H
            clear H
            go_wp2
            go_meet
            case rel => exact ⟨_, (true), (by first | rfl | (simp; done) | (simp [*]; done)), H', ⟨by first | omega | exact Nat.le_refl _⟩, ⟨by (with_reducible repeat (first | apply Kd.R_alloc | apply Kd.R_drewN | apply Kd.R_drew)); exact HO179.out⟩, ⟨by (with_reducible repeat (first | refine blk_drewN ?_ _ | refine blk_drew ?_ | refine blk_alloc ?_ _)); exact BK175.out⟩, ⟨by repeat (first | (with_reducible first | exact HB.out | apply below_alloc | apply pw_below_drewN | apply below_drew1 | refine below_set ?_ GE175.out) | exact HB.out)⟩⟩
          · rw [if_neg c18] at H
            have c18b0 : decide ((l0.length : Int) < 2) = false := decide_eq_false c18
            have c18b1 : decide (l0.length < 2) = false := decide_eq_false (by omega)
            clear c18
            (first | rw [c18b0] | (simp only [i64_w, i32_w]; rw [c18b0]) | skip)
            by_cases c19 : (l0.length : Int) > 12
            · rw [if_pos c19] at H
              have c19b0 : decide (12 < (l0.length : Int)) = true := decide_eq_true c19
              have c19b1 : decide (12 < l0.length) = true := decide_eq_true (by omega)
              clear c19
              have H' := Aside0.mk H
              clear H
              go_wp2
              go_meet
              case rel => exact ⟨_, (true), (by first | rfl | (simp; done) | (simp [*]; done)), H', ⟨by first | omega | exact Nat.le_refl _⟩, ⟨by (with_reducible repeat (first | apply Kd.R_alloc | apply Kd.R_drewN | apply Kd.R_drew)); exact HO179.out⟩, ⟨by (with_reducible repeat (first | refine blk_drewN ?_ _ | refine blk_drew ?_ | refine blk_alloc ?_ _)); exact BK175.out⟩, ⟨by repeat (first | (with_reducible first | exact HB.out | apply below_alloc | apply pw_below_drewN | apply below_drew1 | refine below_set ?_ GE175.out) | exact HB.out)⟩⟩
            · rw [if_neg c19] at H
              have c19b0 : decide (12 < (l0.length : Int)) = false := decide_eq_false c19
              have c19b1 : decide (12 < l0.length) = false := decide_eq_false (by omega)
              clear c19
              have H' := Aside0.mk H
              clear H
              obtain ⟨Ao20, co20, eo20⟩ := Kd.R_slice HO179.out
              subst eo20
              go_wp2
              go_meet
              case rel => exact ⟨_, (decide ((t177.length : Int) < (l0.length : Int))), (by first | rfl | (simp; done) | (simp [*]; done)), H', ⟨by first | omega | exact Nat.le_refl _⟩, ⟨by (with_reducible repeat (first | apply Kd.R_alloc | apply Kd.R_drewN | apply Kd.R_drew)); exact HO179.out⟩, ⟨by (with_reducible repeat (first | refine blk_drewN ?_ _ | refine blk_drew ?_ | refine blk_alloc ?_ _)); exact BK175.out⟩, ⟨by repeat (first | (with_reducible first | exact HB.out | apply below_alloc | apply pw_below_drewN | apply below_drew1 | refine below_set ?_ GE175.out) | exact HB.out)⟩⟩
        · replace c17 := Bool.eq_false_iff.mpr c17
          subst c17
          have H1 : (selvedgelaw04_ShareHides.j0 k l0 true t177 (l0.length : Int) true a2_0 a2_1) = some r := by rw [if_neg (show ¬ (false = true) by decide)] at H; exact H
          clear H
          have H := H1
          clear H1
          have H' := Aside0.mk H
          clear H
          go_wp2
          go_meet
          case rel => exact ⟨_, (true), (by first | rfl | (simp; done) | (simp [*]; done)), H', ⟨by first | omega | exact Nat.le_refl _⟩, ⟨by (with_reducible repeat (first | apply Kd.R_alloc | apply Kd.R_drewN | apply Kd.R_drew)); exact HO179.out⟩, ⟨by (with_reducible repeat (first | refine blk_drewN ?_ _ | refine blk_drew ?_ | refine blk_alloc ?_ _)); exact BK175.out⟩, ⟨by repeat (first | (with_reducible first | exact HB.out | apply below_alloc | apply pw_below_drewN | apply below_drew1 | refine below_set ?_ GE175.out) | exact HB.out)⟩⟩
      · replace c16 := Bool.eq_false_iff.mpr c16
        subst c16
        have H1 : (selvedgelaw04_ShareHides.j0 k l0 true t177 (l0.length : Int) true a2_0 a2_1) = some r := by rw [if_neg (show ¬ (false = true) by decide)] at H; exact H
        clear H
        have H := H1
        clear H1
        have H' := Aside0.mk H
        clear H
        go_wp2
        go_meet
        case rel => exact ⟨_, (true), (by first | rfl | (simp; done) | (simp [*]; done)), H', ⟨by first | omega | exact Nat.le_refl _⟩, ⟨by (with_reducible repeat (first | apply Kd.R_alloc | apply Kd.R_drewN | apply Kd.R_drew)); exact HO179.out⟩, ⟨by (with_reducible repeat (first | refine blk_drewN ?_ _ | refine blk_drew ?_ | refine blk_alloc ?_ _)); exact BK175.out⟩, ⟨by repeat (first | (with_reducible first | exact HB.out | apply below_alloc | apply pw_below_drewN | apply below_drew1 | refine below_set ?_ GE175.out) | exact HB.out)⟩⟩
    · replace c15 := Bool.eq_false_iff.mpr c15
      subst c15
      have H1 : (selvedgelaw04_ShareHides.j0 k l0 false t177 (l0.length : Int) true a2_0 a2_1) = some r := by rw [if_neg (show ¬ (false = true) by decide)] at H; exact H
      clear H
      have H := H1
      clear H1
      have H' := Aside0.mk H
      clear H
      go_wp2
      go_meet
      case rel => exact ⟨_, (true), (by first | rfl | (simp; done) | (simp [*]; done)), H', ⟨by first | omega | exact Nat.le_refl _⟩, ⟨by (with_reducible repeat (first | apply Kd.R_alloc | apply Kd.R_drewN | apply Kd.R_drew)); exact HO179.out⟩, ⟨by (with_reducible repeat (first | refine blk_drewN ?_ _ | refine blk_drew ?_ | refine blk_alloc ?_ _)); exact BK175.out⟩, ⟨by repeat (first | (with_reducible first | exact HB.out | apply below_alloc | apply pw_below_drewN | apply below_drew1 | refine below_set ?_ GE175.out) | exact HB.out)⟩⟩
  case rest =>
    clear HC8
    try clear c1
    try clear p2
    try clear c3
    try clear c4
    try clear c15
    try clear c16
    try clear c17
    try clear c18
    try clear c18b0
    try clear c18b1
    try clear c19
    try clear c19b0
    try clear c19b1
    try clear hcz13_0
    try clear hcz13_1
    try clear hfz13_0
    try clear hfz13_1
    obtain ⟨kq, x58_7, rfl, HA, HJ7, HO_8, BK175, HB⟩ := hcut
    cases kq with
    | zero => exact absurd HA.out (by simp [selvedgelaw04_ShareHides.j0])
    | succ kj7 =>
      have H := HA.out
      clear HA
      simp only [selvedgelaw04_ShareHides.j0] at H
      by_cases c21 : x58_7 = true
      · subst c21
        have H1 : (some t176) = some r := by rw [if_pos rfl] at H; exact H
        clear H
        have H := H1
        clear H1
        obtain rfl := Option.some.inj H
        go_wp2
        go_ret
        exact ⟨by first | rfl | (simp [errW_none, errW_some] <;> rfl) | (simp [*, errW_none, errW_some] <;> rfl), by repeat (first | (with_reducible first | exact HB.out | apply below_alloc | apply pw_below_drewN | apply below_drew1 | refine below_set ?_ GE175.out) | exact HB.out)⟩
      · replace c21 := Bool.eq_false_iff.mpr c21
        subst c21
        have H1 : (selvedgelaw04_ShareHides.l0 kj7 l0 t177 (l0.length : Int) ([] : List (S43)) 0 a2_0 a2_1) = some r := by rw [if_neg (show ¬ (false = true) by decide)] at H; exact H
        clear H
        have H := H1
        clear H1
        have H' := Aside0.mk H
        clear H
        go_wp2
        go_loopg [12, 13] kj7 (fun kq v12 v13 w' => ∃ (x12_2 : List (S43)) (x13_2 : Int), v13 = .int .i64 x13_2 ∧ Aside0 (selvedgelaw04_ShareHides.l0 kq l0 t177 (l0.length : Int) x12_2 x13_2 a2_0 a2_1 = some r) ∧ Aside0 (kq ≤ kj7) ∧ Aside0 (Kd.R (Kd.int .i64) 3 w' w.heap.size (fun _ => True) v178 t177) ∧ Aside0 (Kd.R k43 43 w' w.heap.size (fun _ => True) v12 x12_2) ∧ Aside0 (w'.heap[gb175]? = some (.cells #[.int .i64 a2_0, .int .i64 a2_1] 23 (0, 0))) ∧ Aside0 (Below w.heap.size w w'))
        case atStart => exact ⟨(([] : List (S43))), (0), (by first | rfl | (simp; done) | (simp [*]; done)), H', ⟨Nat.le_refl _⟩, ⟨by (with_reducible repeat (first | apply Kd.R_alloc | apply Kd.R_drewN | apply Kd.R_drew)); exact HO_8.out⟩, ⟨by first | exact Kd.R_nil _ _ _ _ _ | exact Kd.N_nil _ _ _ _ _ | exact Kd.V_nil _ _ _ _ _ | exact Kd.Q_nil _ _ _ _ _ | exact Kd.S_nil _ _ _ _ _⟩, ⟨by (with_reducible repeat (first | refine blk_drewN ?_ _ | refine blk_drew ?_ | refine blk_alloc ?_ _)); exact BK175.out⟩, ⟨by repeat (first | (with_reducible first | exact HB.out | apply below_alloc | apply pw_below_drewN | apply below_drew1 | refine below_set ?_ GE175.out) | exact HB.out)⟩⟩
        case round =>
          clear H'
          try clear c1
          try clear c2
          try clear p2
          try clear c3
          try clear c4
          try clear c15
          try clear c16
          try clear c17
          try clear c18
          try clear c18b0
          try clear c18b1
          try clear c19
          try clear c19b0
          try clear c19b1
          try clear c21
          try clear hcz13_0
          try clear hcz13_1
          try clear hfz13_0
          try clear hfz13_1
          try clear p2
          obtain ⟨x12_2, x13_2, rfl, HA, HK2, HO_8, HO_12, BK175, HB⟩ := hrel
          cases gk with
          | zero => exact absurd HA.out (by simp [selvedgelaw04_ShareHides.l0])
          | succ k2 =>
            have H := HA.out
            clear HA
            simp only [selvedgelaw04_ShareHides.l0] at H
            by_cases c22 : (wrap64 (x13_2 + 1)) < (l0.length : Int)
            · rw [if_pos c22] at H
              have c22b0 : decide ((wrap64 (x13_2 + 1)) < (l0.length : Int)) = true := decide_eq_true c22
              clear c22
              by_cases c23 : 0 ≤ x13_2
              · rw [if_pos c23] at H
                have c23b0 : decide (0 ≤ x13_2) = true := decide_eq_true c23
                clear c23
                by_cases c24 : x13_2 < (t177.length : Int)
                · rw [if_pos c24] at H
                  have c24b0 : decide (x13_2 < (t177.length : Int)) = true := decide_eq_true c24
                  clear c24
                  replace H := Option.bind_eq_some_iff.mp H
                  obtain ⟨⟨t183, t184, t185, t186⟩, A250, H⟩ := H
                  replace H : (if x12_2.length < 5864062014805 then (selvedgelaw04_ShareHides.l0 k2 l0 t177 (l0.length : Int) (x12_2 ++ [(⟨t183, (⟨t184, t185⟩ : S23)⟩ : S43)]) (wrap64 (x13_2 + 1)) a2_0 a2_1) else (none)) = some r := H
                  have A25 := Aside0.mk A250
                  clear A250
                  by_cases c26 : x12_2.length < 5864062014805
                  · rw [if_pos c26] at H
                    have LMc26 := Aside0.mk c26
                    clear c26
                    obtain ⟨y188, hy188⟩ : ∃ y_ : List (S43), y_ = (x12_2 ++ [(⟨t183, (⟨t184, t185⟩ : S23)⟩ : S43)]) := ⟨_, rfl⟩
                    replace H : (selvedgelaw04_ShareHides.l0 k2 l0 t177 (l0.length : Int) y188 (wrap64 (x13_2 + 1)) a2_0 a2_1) = some r := by first | (rw [hy188]; with_reducible exact H) | (have H2_ := (Option.bind_some _ _).symm.trans H; rw [hy188]; with_reducible exact H2_) | (have H2_ := (Option.bind_some _ _).symm.trans H; with_reducible exact H2_) | with_reducible exact H | (rw [hy188]; exact H) | exact H
                    have Ny188 := Aside0.mk hy188
                    clear hy188
                    have H' := Aside0.mk H
                    clear H
                    obtain ⟨Ao27, co27, eo27⟩ := Kd.R_slice HO_8.out
                    subst eo27
                    have p182 : 0 ≤ (x13_2 : Int) := of_decide_eq_true (by first | (with_reducible assumption) | assumption)
                    have q182 : x13_2 < (t177.length : Int) := of_decide_eq_true (by first | (with_reducible assumption) | assumption)
                    obtain ⟨ad182, e182, hx182_0⟩ := Kd.at_int (Kd.R_reads' HO_8.out).2.2 x13_2 p182 q182
                    cases e182
                    replace p182 := eq_true p182
                    replace q182 := eq_true q182
                    go_wp2_with (first | ((with_reducible refine gate_callee (f := 39) rfl ?_); refine goesL_ (some 72) rfl rfl Try.func39 (by kernel_rfl) rfl #[.slice A0 l0.length c0, .int .i64 (rd t177 x13_2)] rfl (by (try simp only [List.map_toArray, List.map_cons, List.map_nil]); first | done | rfl | (simp only [List.length_drop, List.length_take]; rfl)) ?_; (with_reducible refine (share_Of.calls _ _ l0 (rd t177 x13_2) t183 t184 t185 t186 _ ?side1 ?side2 A25.out).mono ?_); (case side1 => repeat (first | exact (Kd.C_below HR0.out HB.out) | (with_reducible refine Kd.C_alloc ?_ _) | (with_reducible refine Kd.C_drewN ?_ _) | (with_reducible refine Kd.C_drew ?_))); (case side2 => exact HC0.out); rintro e w28 ⟨rfl, hb⟩; refine ⟨_, rfl, ?_⟩; have n0_ := Aside0.mk (Kd.R_below (by (with_reducible repeat (first | apply Kd.R_alloc | apply Kd.R_drewN | apply Kd.R_drew)); exact HO_8.out) hb); have n1_ := Aside0.mk (Kd.R_below (by (with_reducible repeat (first | apply Kd.R_alloc | apply Kd.R_drewN | apply Kd.R_drew)); exact HO_12.out) hb); have n2_ := Aside0.mk (blk_below (g := gb175) (o := .cells #[.int .i64 a2_0, .int .i64 a2_1] 23 (0, 0)) (by (with_reducible repeat (first | refine blk_drewN ?_ _ | refine blk_drew ?_ | refine blk_alloc ?_ _)); exact BK175.out) hb); have n3_ := Aside0.mk (below_step (by repeat (first | (with_reducible first | exact HB.out | apply below_alloc | apply pw_below_drewN | apply below_drew1 | refine below_set ?_ GE175.out) | exact HB.out)) hb); clear HO_8; clear HO_12; clear BK175; clear HB; have HO_8 := n0_; have HO_12 := n1_; have BK175 := n2_; have HB := n3_; clear n0_ n1_ n2_ n3_; (try clear hb); (try clear hb2); (try clear hk); (try clear hi)) | ((with_reducible refine gate_dst (N := 14) rfl ?_); (try (refine gate_guard (by rfl) ?_; dsimp only)); refine box_event ?hg (N := 14) ?hd (cs := #[.int .i64 0, .int .i64 0, .int .i64 0]) (t := 43) ?hr ?_; (case hd => rfl); (case hg => rfl); (case hr => first | (go_simp; done) | (go_simp; rfl)); intro gb187 hg w29 hbox hb; have n0_ := Aside0.mk (Kd.R_below (by (with_reducible repeat (first | apply Kd.R_alloc | apply Kd.R_drewN | apply Kd.R_drew)); exact HO_8.out) hb); have n1_ := Aside0.mk (Kd.R_below (Kd.R_elderB (by (with_reducible repeat (first | apply Kd.R_alloc | apply Kd.R_drewN | apply Kd.R_drew)); exact HO_12.out) gb187 (Nat.le_of_eq hg.symm)) hb); have n2_ := Aside0.mk (blk_below (g := gb175) (o := .cells #[.int .i64 a2_0, .int .i64 a2_1] 23 (0, 0)) (by (with_reducible repeat (first | refine blk_drewN ?_ _ | refine blk_drew ?_ | refine blk_alloc ?_ _)); exact BK175.out) hb); have n3_ := Aside0.mk (below_step (by repeat (first | (with_reducible first | exact HB.out | apply below_alloc | apply pw_below_drewN | apply below_drew1 | refine below_set ?_ GE175.out) | exact HB.out)) hb); have n4_ := Aside0.mk (hbox); have n5_ := Aside0.mk ((by rw [hg]; exact (below_size (by repeat (first | (with_reducible first | exact HB.out | apply below_alloc | apply pw_below_drewN | apply below_drew1 | refine below_set ?_ GE175.out) | exact HB.out))) : w.heap.size ≤ gb187)); have n6_ := Aside0.mk ((by rw [hg]; exact (below_size (by repeat (first | (with_reducible first | exact HB.out | apply below_alloc | apply pw_below_drewN | apply below_drew1 | refine below_set ?_ GE175.out) | exact HB.out))) : w.heap.size ≤ gb187)); have n7_ := Aside0.mk ((by rw [hg]; exact Nat.ne_of_lt (blk_lt (g := gb175) (o := .cells #[.int .i64 a2_0, .int .i64 a2_1] 23 (0, 0)) (by (with_reducible repeat (first | refine blk_drewN ?_ _ | refine blk_drew ?_ | refine blk_alloc ?_ _)); exact BK175.out)) : gb175 ≠ gb187)); have n8_ := Aside0.mk ((by rw [hg]; exact Nat.ne_of_gt (blk_lt (g := gb175) (o := .cells #[.int .i64 a2_0, .int .i64 a2_1] 23 (0, 0)) (by (with_reducible repeat (first | refine blk_drewN ?_ _ | refine blk_drew ?_ | refine blk_alloc ?_ _)); exact BK175.out)) : gb187 ≠ gb175)); clear HO_8; clear HO_12; clear BK175; clear HB; have HO_8 := n0_; have HO_12 := n1_; have BK175 := n2_; have HB := n3_; have BK187 := n4_; have GW187 := n5_; have GE187 := n6_; have NB175_187 := n7_; have NB187_175 := n8_; clear n0_ n1_ n2_ n3_ n4_ n5_ n6_ n7_ n8_; clear hb hbox hg; have hnb30 := NB187_175.out; have hnc30 := NB175_187.out; have hcz31_0 : w29.cell? ⟨gb187, 0, none⟩ = some (.int .i64 0) := (blk_cell BK187.out 0).trans rfl; have hcz31_1 : w29.cell? ⟨gb187, 1, none⟩ = some (.int .i64 0) := (blk_cell BK187.out 1).trans rfl; have hcz31_2 : w29.cell? ⟨gb187, 2, none⟩ = some (.int .i64 0) := (blk_cell BK187.out 2).trans rfl; have hfz31_0 := blk_frozen BK187.out 0; have hfz31_1 := blk_frozen BK187.out 1; have hfz31_2 := blk_frozen BK187.out 2) | ((with_reducible refine gate_builtin (b := .append) (xs := #[.tmp 75, .tmp 77]) rfl ?_); (try (refine gate_guard (by rfl) ?_; dsimp only)); at_builtin; refine Kd.R_append k43 (w0 := w) w.heap.size rfl (.tmp 75) (.tmp 77) 53 43 (.agg #[(.int .i64 0), (.int .i64 0), (.int .i64 0)]) 24 rfl Try.underlying53 info43 rfl (by decide) (by omega) u12 x12_2 (⟨t183, (⟨t184, t185⟩ : S23)⟩ : S43) [.int .i64 t183, .int .i64 t184, .int .i64 t185] (fun k_ => k_ ≠ gb187) (fun _ => False) rfl (by first | (go_simp; done) | (go_simp; rfl)) ?aP (fun _ hk => hk.elim) ?aF ?aO ?aB ?aS ?aL ?_; (case aP => exact k43_mkM _ _ _ (⟨t183, (⟨t184, t185⟩ : S23)⟩ : S43)); (case aB => exact (by repeat (first | (with_reducible first | exact HB.out | apply below_alloc | apply pw_below_drewN | apply below_drew1 | refine below_set ?_ GE175.out | refine below_set ?_ GE187.out) | exact HB.out))); (case aF => exact (fun k_ hk => Kd.freshB (g := gb187) (o := .cells #[.int .i64 t183, .int .i64 t184, .int .i64 t185] 43 (0, 0)) (by (with_reducible repeat (first | refine blk_drewN ?_ _ | refine blk_drew ?_ | refine blk_alloc ?_ _)); refine blk_put (cs := #[.int .i64 t183, .int .i64 t184, .int .i64 0]) ?_ 2 _ rfl; (with_reducible repeat (first | refine blk_drewN ?_ _ | refine blk_drew ?_ | refine blk_alloc ?_ _)); refine blk_put (cs := #[.int .i64 t183, .int .i64 0, .int .i64 0]) ?_ 1 _ rfl; (with_reducible repeat (first | refine blk_drewN ?_ _ | refine blk_drew ?_ | refine blk_alloc ?_ _)); refine blk_put (cs := #[.int .i64 0, .int .i64 0, .int .i64 0]) ?_ 0 _ rfl; (with_reducible repeat (first | refine blk_drewN ?_ _ | refine blk_drew ?_ | refine blk_alloc ?_ _)); exact BK187.out) k_ hk)); (case aO => exact (by (with_reducible repeat (first | apply Kd.R_alloc | apply Kd.R_drewN | apply Kd.R_drew)); exact Kd.R_mono (Kd.R_far (p := ⟨gb187, 2, none⟩) (Kd.R_far (p := ⟨gb187, 1, none⟩) (Kd.R_far (p := ⟨gb187, 0, none⟩) (Kd.R_mono HO_12.out (fun k_ hk => (⟨hk, hk.2⟩ : _ ∧ k_ ≠ gb187))) (fun _ hk => hk.2) (.int .i64 t183)) (fun _ hk => hk.2) (.int .i64 t184)) (fun _ hk => hk.2) (.int .i64 t185)) (fun _ hk => hk.1.2))); (case aS => exact (below_size (by repeat (first | (with_reducible first | exact HB.out | apply below_alloc | apply pw_below_drewN | apply below_drew1 | refine below_set ?_ GE175.out | refine below_set ?_ GE187.out) | exact HB.out)))); (case aL => have := LMc26.out; omega); intro v189 w32 ho hb hg hat; rw [← Ny188.out] at ho; have n0_ := Aside0.mk (Kd.R_over' (by (with_reducible repeat (first | apply Kd.R_alloc | apply Kd.R_drewN | apply Kd.R_drew)); exact (Kd.R_mono (Kd.R_far (p := ⟨gb187, 2, none⟩) (Kd.R_far (p := ⟨gb187, 1, none⟩) (Kd.R_far (p := ⟨gb187, 0, none⟩) (Kd.R_types HO_8.out BK187.out (by decide)) (fun _ hk => hk.2) (.int .i64 t183)) (fun _ hk => hk.2) (.int .i64 t184)) (fun _ hk => hk.2) (.int .i64 t185)) (fun _ h_ => h_.1))) (Kd.R_typed (by (with_reducible repeat (first | apply Kd.R_alloc | apply Kd.R_drewN | apply Kd.R_drew)); exact (Kd.R_mono (Kd.R_far (p := ⟨gb187, 2, none⟩) (Kd.R_far (p := ⟨gb187, 1, none⟩) (Kd.R_far (p := ⟨gb187, 0, none⟩) (Kd.R_mono HO_12.out (fun k_ hk => (⟨hk, hk.2⟩ : _ ∧ k_ ≠ gb187))) (fun _ hk => hk.2) (.int .i64 t183)) (fun _ hk => hk.2) (.int .i64 t184)) (fun _ hk => hk.2) (.int .i64 t185)) (fun _ h_ => h_.1)))) (by decide) hg); have n1_ := Aside0.mk (blk_grown (g := gb175) (o := .cells #[.int .i64 a2_0, .int .i64 a2_1] 23 (0, 0)) (by (with_reducible repeat (first | refine blk_drewN ?_ _ | refine blk_drew ?_ | refine blk_alloc ?_ _)); refine blk_far ?_ NB175_187.out _; (with_reducible repeat (first | refine blk_drewN ?_ _ | refine blk_drew ?_ | refine blk_alloc ?_ _)); refine blk_far ?_ NB175_187.out _; (with_reducible repeat (first | refine blk_drewN ?_ _ | refine blk_drew ?_ | refine blk_alloc ?_ _)); refine blk_far ?_ NB175_187.out _; (with_reducible repeat (first | refine blk_drewN ?_ _ | refine blk_drew ?_ | refine blk_alloc ?_ _)); exact BK175.out) hg (Kd.R_ne HO_12.out BK175.out (by decide))); have n2_ := Aside0.mk (blk_grown (g := gb187) (o := .cells #[.int .i64 t183, .int .i64 t184, .int .i64 t185] 43 (0, 0)) (by (with_reducible repeat (first | refine blk_drewN ?_ _ | refine blk_drew ?_ | refine blk_alloc ?_ _)); refine blk_put (cs := #[.int .i64 t183, .int .i64 t184, .int .i64 0]) ?_ 2 _ rfl; (with_reducible repeat (first | refine blk_drewN ?_ _ | refine blk_drew ?_ | refine blk_alloc ?_ _)); refine blk_put (cs := #[.int .i64 t183, .int .i64 0, .int .i64 0]) ?_ 1 _ rfl; (with_reducible repeat (first | refine blk_drewN ?_ _ | refine blk_drew ?_ | refine blk_alloc ?_ _)); refine blk_put (cs := #[.int .i64 0, .int .i64 0, .int .i64 0]) ?_ 0 _ rfl; (with_reducible repeat (first | refine blk_drewN ?_ _ | refine blk_drew ?_ | refine blk_alloc ?_ _)); exact BK187.out) hg (Kd.R_away HO_12.out (fun _ hk => hk.2))); have n3_ := Aside0.mk (hb); have n4_ := Aside0.mk (ho); clear HO_8; clear BK175; clear BK187; clear HB; clear HO_12; have HO_8 := n0_; have BK175 := n1_; have BK187 := n2_; have HB := n3_; have HO190 := n4_; clear n0_ n1_ n2_ n3_ n4_; clear ho hb hg hat))
                    go_roundg k2
                    case measure => have := HJ7.out; have := HK2.out; omega
                    case rel => exact ⟨(y188), (wrap64 (x13_2 + 1)), (by first | rfl | (simp; done) | (simp [*]; done)), H', ⟨by have := HJ7.out; have := HK2.out; omega⟩, ⟨by (with_reducible repeat (first | apply Kd.R_alloc | apply Kd.R_drewN | apply Kd.R_drew)); exact HO_8.out⟩, ⟨by (with_reducible repeat (first | apply Kd.R_alloc | apply Kd.R_drewN | apply Kd.R_drew)); exact Kd.R_mono HO190.out (fun _ hk => trivial)⟩, ⟨by (with_reducible repeat (first | refine blk_drewN ?_ _ | refine blk_drew ?_ | refine blk_alloc ?_ _)); exact BK175.out⟩, ⟨by repeat (first | (with_reducible first | exact HB.out | apply below_alloc | apply pw_below_drewN | apply below_drew1 | refine below_set ?_ GE175.out | refine below_set ?_ GE187.out) | exact HB.out)⟩⟩
                  · rw [if_neg c26] at H
                    exact absurd H (by simp)
                · rw [if_neg c24] at H
                  exact absurd H (by simp)
              · rw [if_neg c23] at H
                exact absurd H (by simp)
            · rw [if_neg c22] at H
              have c22b0 : decide ((wrap64 (x13_2 + 1)) < (l0.length : Int)) = false := decide_eq_false c22
              clear c22
              obtain ⟨ji33, hji33⟩ : ∃ j_ : Int, (wrap64 ((l0.length : Int) - 1)) = j_ := ⟨_, rfl⟩
              replace H : (if 0 ≤ (ji33) then (if (ji33) < (t177.length : Int) then ((some (([] : List (S43)) : List (S43))).bind fun y193 => (if y193.length + x12_2.length < 5864062014805 then ((some (y193 ++ x12_2 : List (S43))).bind fun y196 => (if y196.length < 5864062014805 then ((some (y196 ++ [(⟨rd t177 (ji33), (⟨0, 0⟩ : S23)⟩ : S43)] : List (S43))).bind fun y199 => ((share_Open.f y199).bind fun bt202 => ((share_Weight.f k2 y199 (ji33)).bind fun bt206 => ((selvedgeref03_Inv.f k2 bt206.1 bt206.2.1).bind fun bt210 => (if bt202.2.2 = 0 then (if bt206.2.2 = 0 then (selvedgelaw04_ShareHides.j2 k2 (l0.length : Int) y199 (bt210.2.2 != 0) a2_0 a2_1 bt202.1 bt202.2.1 bt210.1 bt210.2.1) else (selvedgelaw04_ShareHides.j2 k2 (l0.length : Int) y199 true a2_0 a2_1 bt202.1 bt202.2.1 bt210.1 bt210.2.1)) else (selvedgelaw04_ShareHides.j2 k2 (l0.length : Int) y199 true a2_0 a2_1 bt202.1 bt202.2.1 bt210.1 bt210.2.1)))))) else (none))) else (none))) else (none)) else (none)) = some r := by first | (rw [hji33] at H; exact H) | (simp only [hji33] at H ⊢; exact H)
              have hji33w : (IntKind.i64.wrap ((l0.length : Int) - 1)) = ji33 := (i64_w _).trans hji33
              by_cases c34 : 0 ≤ (ji33)
              · rw [if_pos c34] at H
                have c34b0 : decide (0 ≤ (ji33)) = true := decide_eq_true c34
                clear c34
                by_cases c35 : (ji33) < (t177.length : Int)
                · rw [if_pos c35] at H
                  have c35b0 : decide ((ji33) < (t177.length : Int)) = true := decide_eq_true c35
                  clear c35
                  obtain ⟨y193, hy193⟩ : ∃ y_ : List (S43), y_ = (([] : List (S43))) := ⟨_, rfl⟩
                  replace H : (if y193.length + x12_2.length < 5864062014805 then ((some (y193 ++ x12_2 : List (S43))).bind fun y196 => (if y196.length < 5864062014805 then ((some (y196 ++ [(⟨rd t177 (ji33), (⟨0, 0⟩ : S23)⟩ : S43)] : List (S43))).bind fun y199 => ((share_Open.f y199).bind fun bt202 => ((share_Weight.f k2 y199 (ji33)).bind fun bt206 => ((selvedgeref03_Inv.f k2 bt206.1 bt206.2.1).bind fun bt210 => (if bt202.2.2 = 0 then (if bt206.2.2 = 0 then (selvedgelaw04_ShareHides.j2 k2 (l0.length : Int) y199 (bt210.2.2 != 0) a2_0 a2_1 bt202.1 bt202.2.1 bt210.1 bt210.2.1) else (selvedgelaw04_ShareHides.j2 k2 (l0.length : Int) y199 true a2_0 a2_1 bt202.1 bt202.2.1 bt210.1 bt210.2.1)) else (selvedgelaw04_ShareHides.j2 k2 (l0.length : Int) y199 true a2_0 a2_1 bt202.1 bt202.2.1 bt210.1 bt210.2.1)))))) else (none))) else (none)) = some r := by first | (rw [hy193]; with_reducible exact H) | (have H2_ := (Option.bind_some _ _).symm.trans H; rw [hy193]; with_reducible exact H2_) | (have H2_ := (Option.bind_some _ _).symm.trans H; with_reducible exact H2_) | with_reducible exact H | (rw [hy193]; exact H) | exact H
                  have Ny193 := Aside0.mk hy193
                  clear hy193
                  by_cases c36 : y193.length + x12_2.length < 5864062014805
                  · rw [if_pos c36] at H
                    have LMc36 := Aside0.mk c36
                    clear c36
                    obtain ⟨y196, hy196⟩ : ∃ y_ : List (S43), y_ = (y193 ++ x12_2) := ⟨_, rfl⟩
                    replace H : (if y196.length < 5864062014805 then ((some (y196 ++ [(⟨rd t177 (ji33), (⟨0, 0⟩ : S23)⟩ : S43)] : List (S43))).bind fun y199 => ((share_Open.f y199).bind fun bt202 => ((share_Weight.f k2 y199 (ji33)).bind fun bt206 => ((selvedgeref03_Inv.f k2 bt206.1 bt206.2.1).bind fun bt210 => (if bt202.2.2 = 0 then (if bt206.2.2 = 0 then (selvedgelaw04_ShareHides.j2 k2 (l0.length : Int) y199 (bt210.2.2 != 0) a2_0 a2_1 bt202.1 bt202.2.1 bt210.1 bt210.2.1) else (selvedgelaw04_ShareHides.j2 k2 (l0.length : Int) y199 true a2_0 a2_1 bt202.1 bt202.2.1 bt210.1 bt210.2.1)) else (selvedgelaw04_ShareHides.j2 k2 (l0.length : Int) y199 true a2_0 a2_1 bt202.1 bt202.2.1 bt210.1 bt210.2.1)))))) else (none)) = some r := by first | (rw [hy196]; with_reducible exact H) | (have H2_ := (Option.bind_some _ _).symm.trans H; rw [hy196]; with_reducible exact H2_) | (have H2_ := (Option.bind_some _ _).symm.trans H; with_reducible exact H2_) | with_reducible exact H | (rw [hy196]; exact H) | exact H
                    have Ny196 := Aside0.mk hy196
                    clear hy196
                    by_cases c37 : y196.length < 5864062014805
                    · rw [if_pos c37] at H
                      have LMc37 := Aside0.mk c37
                      clear c37
                      obtain ⟨y199, hy199⟩ : ∃ y_ : List (S43), y_ = (y196 ++ [(⟨rd t177 (ji33), (⟨0, 0⟩ : S23)⟩ : S43)]) := ⟨_, rfl⟩
                      replace H : ((share_Open.f y199).bind fun bt202 => ((share_Weight.f k2 y199 (ji33)).bind fun bt206 => ((selvedgeref03_Inv.f k2 bt206.1 bt206.2.1).bind fun bt210 => (if bt202.2.2 = 0 then (if bt206.2.2 = 0 then (selvedgelaw04_ShareHides.j2 k2 (l0.length : Int) y199 (bt210.2.2 != 0) a2_0 a2_1 bt202.1 bt202.2.1 bt210.1 bt210.2.1) else (selvedgelaw04_ShareHides.j2 k2 (l0.length : Int) y199 true a2_0 a2_1 bt202.1 bt202.2.1 bt210.1 bt210.2.1)) else (selvedgelaw04_ShareHides.j2 k2 (l0.length : Int) y199 true a2_0 a2_1 bt202.1 bt202.2.1 bt210.1 bt210.2.1))))) = some r := by first | (rw [hy199]; with_reducible exact H) | (have H2_ := (Option.bind_some _ _).symm.trans H; rw [hy199]; with_reducible exact H2_) | (have H2_ := (Option.bind_some _ _).symm.trans H; with_reducible exact H2_) | with_reducible exact H | (rw [hy199]; exact H) | exact H
                      have Ny199 := Aside0.mk hy199
                      clear hy199
                      replace H := Option.bind_eq_some_iff.mp H
                      obtain ⟨⟨t202, t203, t204⟩, A380, H⟩ := H
                      replace H : ((share_Weight.f k2 y199 (ji33)).bind fun bt206 => ((selvedgeref03_Inv.f k2 bt206.1 bt206.2.1).bind fun bt210 => (if t204 = 0 then (if bt206.2.2 = 0 then (selvedgelaw04_ShareHides.j2 k2 (l0.length : Int) y199 (bt210.2.2 != 0) a2_0 a2_1 t202 t203 bt210.1 bt210.2.1) else (selvedgelaw04_ShareHides.j2 k2 (l0.length : Int) y199 true a2_0 a2_1 t202 t203 bt210.1 bt210.2.1)) else (selvedgelaw04_ShareHides.j2 k2 (l0.length : Int) y199 true a2_0 a2_1 t202 t203 bt210.1 bt210.2.1)))) = some r := H
                      have A38 := Aside0.mk A380
                      clear A380
                      replace H := Option.bind_eq_some_iff.mp H
                      obtain ⟨⟨t206, t207, t208⟩, A390, H⟩ := H
                      replace H : ((selvedgeref03_Inv.f k2 t206 t207).bind fun bt210 => (if t204 = 0 then (if t208 = 0 then (selvedgelaw04_ShareHides.j2 k2 (l0.length : Int) y199 (bt210.2.2 != 0) a2_0 a2_1 t202 t203 bt210.1 bt210.2.1) else (selvedgelaw04_ShareHides.j2 k2 (l0.length : Int) y199 true a2_0 a2_1 t202 t203 bt210.1 bt210.2.1)) else (selvedgelaw04_ShareHides.j2 k2 (l0.length : Int) y199 true a2_0 a2_1 t202 t203 bt210.1 bt210.2.1))) = some r := H
                      have A39 := Aside0.mk A390
                      clear A390
                      replace H := Option.bind_eq_some_iff.mp H
                      obtain ⟨⟨t210, t211, t212⟩, A400, H⟩ := H
                      replace H : (if t204 = 0 then (if t208 = 0 then (selvedgelaw04_ShareHides.j2 k2 (l0.length : Int) y199 (t212 != 0) a2_0 a2_1 t202 t203 t210 t211) else (selvedgelaw04_ShareHides.j2 k2 (l0.length : Int) y199 true a2_0 a2_1 t202 t203 t210 t211)) else (selvedgelaw04_ShareHides.j2 k2 (l0.length : Int) y199 true a2_0 a2_1 t202 t203 t210 t211)) = some r := H
                      have A40 := Aside0.mk A400
                      clear A400
                      have HC41 := Aside0.mk H
                      clear H
                      obtain ⟨Ao42, co42, eo42⟩ := Kd.R_slice HO_8.out
                      subst eo42
                      have p191 : 0 ≤ ((ji33) : Int) := of_decide_eq_true (by first | (with_reducible assumption) | assumption)
                      have q191 : (ji33) < (t177.length : Int) := of_decide_eq_true (by first | (with_reducible assumption) | assumption)
                      obtain ⟨ad191, e191, hx191_0⟩ := Kd.at_int (Kd.R_reads' HO_8.out).2.2 (ji33) p191 q191
                      cases e191
                      replace p191 := eq_true p191
                      replace q191 := eq_true q191
                      go_upto_region 20 with (first | ((with_reducible refine gate_dst (N := 16) rfl ?_); (try (refine gate_guard (by rfl) ?_; dsimp only)); refine box_event ?hg (N := 16) ?hd (cs := #[.int .i64 0, .int .i64 0, .int .i64 0]) (t := 43) ?hr ?_; (case hd => rfl); (case hg => rfl); (case hr => first | (go_simp; done) | (go_simp; rfl)); intro gb192 hg w43 hbox hb; have n0_ := Aside0.mk (Kd.R_below (by (with_reducible repeat (first | apply Kd.R_alloc | apply Kd.R_drewN | apply Kd.R_drew)); exact HO_8.out) hb); have n1_ := Aside0.mk (Kd.R_below (Kd.R_elderB (by (with_reducible repeat (first | apply Kd.R_alloc | apply Kd.R_drewN | apply Kd.R_drew)); exact HO_12.out) gb192 (Nat.le_of_eq hg.symm)) hb); have n2_ := Aside0.mk (blk_below (g := gb175) (o := .cells #[.int .i64 a2_0, .int .i64 a2_1] 23 (0, 0)) (by (with_reducible repeat (first | refine blk_drewN ?_ _ | refine blk_drew ?_ | refine blk_alloc ?_ _)); exact BK175.out) hb); have n3_ := Aside0.mk (below_step (by repeat (first | (with_reducible first | exact HB.out | apply below_alloc | apply pw_below_drewN | apply below_drew1 | refine below_set ?_ GE175.out) | exact HB.out)) hb); have n4_ := Aside0.mk (hbox); have n5_ := Aside0.mk ((by rw [hg]; exact (below_size (by repeat (first | (with_reducible first | exact HB.out | apply below_alloc | apply pw_below_drewN | apply below_drew1 | refine below_set ?_ GE175.out) | exact HB.out))) : w.heap.size ≤ gb192)); have n6_ := Aside0.mk ((by rw [hg]; exact (below_size (by repeat (first | (with_reducible first | exact HB.out | apply below_alloc | apply pw_below_drewN | apply below_drew1 | refine below_set ?_ GE175.out) | exact HB.out))) : w.heap.size ≤ gb192)); have n7_ := Aside0.mk ((by rw [hg]; exact Nat.ne_of_lt (blk_lt (g := gb175) (o := .cells #[.int .i64 a2_0, .int .i64 a2_1] 23 (0, 0)) (by (with_reducible repeat (first | refine blk_drewN ?_ _ | refine blk_drew ?_ | refine blk_alloc ?_ _)); exact BK175.out)) : gb175 ≠ gb192)); have n8_ := Aside0.mk ((by rw [hg]; exact Nat.ne_of_gt (blk_lt (g := gb175) (o := .cells #[.int .i64 a2_0, .int .i64 a2_1] 23 (0, 0)) (by (with_reducible repeat (first | refine blk_drewN ?_ _ | refine blk_drew ?_ | refine blk_alloc ?_ _)); exact BK175.out)) : gb192 ≠ gb175)); clear HO_8; clear HO_12; clear BK175; clear HB; have HO_8 := n0_; have HO_12 := n1_; have BK175 := n2_; have HB := n3_; have BK192 := n4_; have GW192 := n5_; have GE192 := n6_; have NB175_192 := n7_; have NB192_175 := n8_; clear n0_ n1_ n2_ n3_ n4_ n5_ n6_ n7_ n8_; clear hb hbox hg; have hnb44 := NB192_175.out; have hnc44 := NB175_192.out; have hcz45_0 : w43.cell? ⟨gb192, 0, none⟩ = some (.int .i64 0) := (blk_cell BK192.out 0).trans rfl; have hcz45_1 : w43.cell? ⟨gb192, 1, none⟩ = some (.int .i64 0) := (blk_cell BK192.out 1).trans rfl; have hcz45_2 : w43.cell? ⟨gb192, 2, none⟩ = some (.int .i64 0) := (blk_cell BK192.out 2).trans rfl; have hfz45_0 := blk_frozen BK192.out 0; have hfz45_1 := blk_frozen BK192.out 1; have hfz45_2 := blk_frozen BK192.out 2) | ((with_reducible refine gate_dst (N := 85) rfl ?_); (try (refine gate_guard (by rfl) ?_; dsimp only)); refine Kd.R_lit k43 _ 43 ?hg (N := 85) ?hd (xs := ([] : List (S43))) (inner := []) (ok := fun _ => True) (okp := fun _ => True) ?hr ?hp (fun _ hk => hk) trivial (Below.refl _ _) (Nat.le_refl _) (by simp) ?_; (case hd => rfl); (case hg => rfl); (case hr => first | (go_simp; done) | (go_simp; rfl)); (case hp => exact (Reps.none _ _)); intro v194 w46 ho47 hb hg_ hnew_; clear hg_ hnew_; (first | rw [← Ny193.out] at ho47 | (simp only [Int.reduceToNat] at ho47; rw [← Ny193.out] at ho47)); have n0_ := Aside0.mk (Kd.R_below (by (with_reducible repeat (first | apply Kd.R_alloc | apply Kd.R_drewN | apply Kd.R_drew)); exact (Kd.R_mono (Kd.R_far (p := ⟨gb192, 2, none⟩) (Kd.R_far (p := ⟨gb192, 1, none⟩) (Kd.R_far (p := ⟨gb192, 0, none⟩) (Kd.R_types HO_8.out BK192.out (by decide)) (fun _ hk => hk.2) (.int .i64 (rd t177 (ji33)))) (fun _ hk => hk.2) (.int .i64 0)) (fun _ hk => hk.2) (.int .i64 0)) (fun _ h_ => h_.1))) hb); have n1_ := Aside0.mk (Kd.R_elder' (by (with_reducible repeat (first | apply Kd.R_alloc | apply Kd.R_drewN | apply Kd.R_drew)); exact (Kd.R_mono (Kd.R_far (p := ⟨gb192, 2, none⟩) (Kd.R_far (p := ⟨gb192, 1, none⟩) (Kd.R_far (p := ⟨gb192, 0, none⟩) (Kd.R_mono HO_12.out (fun k_ hk => (⟨hk, hk.2⟩ : _ ∧ k_ ≠ gb192))) (fun _ hk => hk.2) (.int .i64 (rd t177 (ji33)))) (fun _ hk => hk.2) (.int .i64 0)) (fun _ hk => hk.2) (.int .i64 0)) (fun _ h_ => h_.1))) (Kd.R_base ho47) hb); have n2_ := Aside0.mk (Kd.R_lower (Kd.R_newB (Kd.R_new' ho47 (Kd.R_lt (by (with_reducible repeat (first | apply Kd.R_alloc | apply Kd.R_drewN | apply Kd.R_drew)); exact (Kd.R_mono (Kd.R_far (p := ⟨gb192, 2, none⟩) (Kd.R_far (p := ⟨gb192, 1, none⟩) (Kd.R_far (p := ⟨gb192, 0, none⟩) (Kd.R_mono HO_12.out (fun k_ hk => (⟨hk, hk.2⟩ : _ ∧ k_ ≠ gb192))) (fun _ hk => hk.2) (.int .i64 (rd t177 (ji33)))) (fun _ hk => hk.2) (.int .i64 0)) (fun _ hk => hk.2) (.int .i64 0)) (fun _ h_ => h_.1))))) (g := gb192) (o := .cells #[.int .i64 (rd t177 (ji33)), .int .i64 0, .int .i64 0] 43 (0, 0)) (by (with_reducible repeat (first | refine blk_drewN ?_ _ | refine blk_drew ?_ | refine blk_alloc ?_ _)); refine blk_put (cs := #[.int .i64 (rd t177 (ji33)), .int .i64 0, .int .i64 0]) ?_ 2 _ rfl; (with_reducible repeat (first | refine blk_drewN ?_ _ | refine blk_drew ?_ | refine blk_alloc ?_ _)); refine blk_put (cs := #[.int .i64 (rd t177 (ji33)), .int .i64 0, .int .i64 0]) ?_ 1 _ rfl; (with_reducible repeat (first | refine blk_drewN ?_ _ | refine blk_drew ?_ | refine blk_alloc ?_ _)); refine blk_put (cs := #[.int .i64 0, .int .i64 0, .int .i64 0]) ?_ 0 _ rfl; (with_reducible repeat (first | refine blk_drewN ?_ _ | refine blk_drew ?_ | refine blk_alloc ?_ _)); exact BK192.out)) (below_size (by repeat (first | (with_reducible first | exact HB.out | apply below_alloc | apply pw_below_drewN | apply below_drew1 | refine below_set ?_ GE175.out | refine below_set ?_ GE192.out) | exact HB.out)))); have n3_ := Aside0.mk (blk_below (g := gb175) (o := .cells #[.int .i64 a2_0, .int .i64 a2_1] 23 (0, 0)) (by (with_reducible repeat (first | refine blk_drewN ?_ _ | refine blk_drew ?_ | refine blk_alloc ?_ _)); refine blk_far ?_ NB175_192.out _; (with_reducible repeat (first | refine blk_drewN ?_ _ | refine blk_drew ?_ | refine blk_alloc ?_ _)); refine blk_far ?_ NB175_192.out _; (with_reducible repeat (first | refine blk_drewN ?_ _ | refine blk_drew ?_ | refine blk_alloc ?_ _)); refine blk_far ?_ NB175_192.out _; (with_reducible repeat (first | refine blk_drewN ?_ _ | refine blk_drew ?_ | refine blk_alloc ?_ _)); exact BK175.out) hb); have n4_ := Aside0.mk (blk_below (g := gb192) (o := .cells #[.int .i64 (rd t177 (ji33)), .int .i64 0, .int .i64 0] 43 (0, 0)) (by (with_reducible repeat (first | refine blk_drewN ?_ _ | refine blk_drew ?_ | refine blk_alloc ?_ _)); refine blk_put (cs := #[.int .i64 (rd t177 (ji33)), .int .i64 0, .int .i64 0]) ?_ 2 _ rfl; (with_reducible repeat (first | refine blk_drewN ?_ _ | refine blk_drew ?_ | refine blk_alloc ?_ _)); refine blk_put (cs := #[.int .i64 (rd t177 (ji33)), .int .i64 0, .int .i64 0]) ?_ 1 _ rfl; (with_reducible repeat (first | refine blk_drewN ?_ _ | refine blk_drew ?_ | refine blk_alloc ?_ _)); refine blk_put (cs := #[.int .i64 0, .int .i64 0, .int .i64 0]) ?_ 0 _ rfl; (with_reducible repeat (first | refine blk_drewN ?_ _ | refine blk_drew ?_ | refine blk_alloc ?_ _)); exact BK192.out) hb); have n5_ := Aside0.mk (below_step (by repeat (first | (with_reducible first | exact HB.out | apply below_alloc | apply pw_below_drewN | apply below_drew1 | refine below_set ?_ GE175.out | refine below_set ?_ GE192.out) | exact HB.out)) hb); clear HO_8; clear HO_12; clear BK175; clear BK192; clear HB; have HO_8 := n0_; have HO_12 := n1_; have HO195 := n2_; have BK175 := n3_; have BK192 := n4_; have HB := n5_; clear n0_ n1_ n2_ n3_ n4_ n5_; clear hb ho47; obtain ⟨Ao49, co49, eo49⟩ := Kd.R_slice HO_12.out; subst eo49) | ((with_reducible refine gate_builtin (b := .append) (xs := #[.tmp 85, .tmp 86]) rfl ?_); (try (refine gate_guard (by rfl) ?_; dsimp only)); at_builtin; refine Kd.R_append_rows k43 (w0 := w) w.heap.size rfl (.tmp 85) (.tmp 86) 53 43 (.agg #[(.int .i64 0), (.int .i64 0), (.int .i64 0)]) 24 rfl Try.underlying53 info43 rfl (by decide) (by omega) v194 y193 x12_2 _ _ _ (fun k_ => some k_ ≠ (.slice Ao49 x12_2.length co49 : Value).ownBlock ∧ k_ ≠ gb192) (fun _ => False) rfl rfl ?aO ?aR (fun _ _ h => h) (fun _ h => h.elim) ?aF ?aB ?aS ?aL ?_; (case aR => repeat (first | exact (Kd.R_reads' HO_12.out).2.2 | (with_reducible refine Kd.C_alloc ?_ _) | (with_reducible refine Kd.C_drewN ?_ _) | (with_reducible refine Kd.C_drew ?_))); (case aB => exact (by repeat (first | (with_reducible first | exact HB.out | apply below_alloc | apply pw_below_drewN | apply below_drew1 | refine below_set ?_ GE175.out | refine below_set ?_ GE192.out) | exact HB.out))); (case aF => exact (fun k_ hk => ⟨Kd.fresh' (Kd.R_lt (by (with_reducible repeat (first | apply Kd.R_alloc | apply Kd.R_drewN | apply Kd.R_drew)); exact HO_12.out)) k_ hk, Kd.freshB (g := gb192) (o := .cells #[.int .i64 (rd t177 (ji33)), .int .i64 0, .int .i64 0] 43 (0, 0)) (by (with_reducible repeat (first | refine blk_drewN ?_ _ | refine blk_drew ?_ | refine blk_alloc ?_ _)); exact BK192.out) k_ hk⟩)); (case aO => exact (by (with_reducible repeat (first | apply Kd.R_alloc | apply Kd.R_drewN | apply Kd.R_drew)); exact Kd.R_mono HO195.out (fun _ hk => ⟨hk.1.2, hk.2⟩))); (case aS => exact (below_size (by repeat (first | (with_reducible first | exact HB.out | apply below_alloc | apply pw_below_drewN | apply below_drew1 | refine below_set ?_ GE175.out | refine below_set ?_ GE192.out) | exact HB.out)))); (case aL => have := LMc36.out; omega); intro v197 w48 ho hb hg hat; rw [← Ny196.out] at ho; have n0_ := Aside0.mk (Kd.R_over' (by (with_reducible repeat (first | apply Kd.R_alloc | apply Kd.R_drewN | apply Kd.R_drew)); exact HO_8.out) (Kd.R_typed (by (with_reducible repeat (first | apply Kd.R_alloc | apply Kd.R_drewN | apply Kd.R_drew)); exact HO195.out)) (by decide) hg); have n1_ := Aside0.mk (Kd.R_after (ok := (fun k_ => k_ ≠ gb192)) (by (with_reducible repeat (first | apply Kd.R_alloc | apply Kd.R_drewN | apply Kd.R_drew)); exact Kd.R_mono HO_12.out (fun _ hk => ⟨hk.1.2, hk.2⟩)) hg hat); have n2_ := Aside0.mk (blk_grown (g := gb175) (o := .cells #[.int .i64 a2_0, .int .i64 a2_1] 23 (0, 0)) (by (with_reducible repeat (first | refine blk_drewN ?_ _ | refine blk_drew ?_ | refine blk_alloc ?_ _)); exact BK175.out) hg (Kd.R_ne HO195.out BK175.out (by decide))); have n3_ := Aside0.mk (blk_grown (g := gb192) (o := .cells #[.int .i64 (rd t177 (ji33)), .int .i64 0, .int .i64 0] 43 (0, 0)) (by (with_reducible repeat (first | refine blk_drewN ?_ _ | refine blk_drew ?_ | refine blk_alloc ?_ _)); exact BK192.out) hg (Kd.R_away HO195.out (fun _ hk => hk.2))); have n4_ := Aside0.mk (hb); have n5_ := Aside0.mk (ho); clear HO_8; clear HO_12; clear BK175; clear BK192; clear HB; clear HO195; have HO_8 := n0_; have HO_12 := n1_; have BK175 := n2_; have BK192 := n3_; have HB := n4_; have HO198 := n5_; clear n0_ n1_ n2_ n3_ n4_ n5_; clear ho hb hg hat; have hcz50_0 : w48.cell? ⟨gb192, 0, none⟩ = some (.int .i64 (rd t177 (ji33))) := (blk_cell BK192.out 0).trans rfl; have hcz50_1 : w48.cell? ⟨gb192, 1, none⟩ = some (.int .i64 0) := (blk_cell BK192.out 1).trans rfl; have hcz50_2 : w48.cell? ⟨gb192, 2, none⟩ = some (.int .i64 0) := (blk_cell BK192.out 2).trans rfl; have hfz50_0 := blk_frozen BK192.out 0; have hfz50_1 := blk_frozen BK192.out 1; have hfz50_2 := blk_frozen BK192.out 2) | ((with_reducible refine gate_builtin (b := .append) (xs := #[.tmp 88, .tmp 90]) rfl ?_); (try (refine gate_guard (by rfl) ?_; dsimp only)); at_builtin; refine Kd.R_append k43 (w0 := w) w.heap.size rfl (.tmp 88) (.tmp 90) 53 43 (.agg #[(.int .i64 0), (.int .i64 0), (.int .i64 0)]) 24 rfl Try.underlying53 info43 rfl (by decide) (by omega) v197 y196 (⟨rd t177 (ji33), (⟨0, 0⟩ : S23)⟩ : S43) [.int .i64 (rd t177 (ji33)), .int .i64 0, .int .i64 0] (fun k_ => some k_ ≠ (.slice Ao49 x12_2.length co49 : Value).ownBlock ∧ k_ ≠ gb192) (fun _ => False) rfl rfl ?aP (fun _ hk => hk.elim) ?aF ?aO ?aB ?aS ?aL ?_; (case aP => exact k43_mkM _ _ _ (⟨rd t177 (ji33), (⟨0, 0⟩ : S23)⟩ : S43)); (case aB => exact (by repeat (first | (with_reducible first | exact HB.out | apply below_alloc | apply pw_below_drewN | apply below_drew1 | refine below_set ?_ GE175.out | refine below_set ?_ GE192.out) | exact HB.out))); (case aF => exact (fun k_ hk => ⟨Kd.fresh' (Kd.R_lt (by (with_reducible repeat (first | apply Kd.R_alloc | apply Kd.R_drewN | apply Kd.R_drew)); exact HO_12.out)) k_ hk, Kd.freshB (g := gb192) (o := .cells #[.int .i64 (rd t177 (ji33)), .int .i64 0, .int .i64 0] 43 (0, 0)) (by (with_reducible repeat (first | refine blk_drewN ?_ _ | refine blk_drew ?_ | refine blk_alloc ?_ _)); exact BK192.out) k_ hk⟩)); (case aO => exact (by (with_reducible repeat (first | apply Kd.R_alloc | apply Kd.R_drewN | apply Kd.R_drew)); exact HO198.out)); (case aS => exact (below_size (by repeat (first | (with_reducible first | exact HB.out | apply below_alloc | apply pw_below_drewN | apply below_drew1 | refine below_set ?_ GE175.out | refine below_set ?_ GE192.out) | exact HB.out)))); (case aL => have := LMc37.out; omega); intro v200 w51 ho hb hg hat; rw [← Ny199.out] at ho; have n0_ := Aside0.mk (Kd.R_over' (by (with_reducible repeat (first | apply Kd.R_alloc | apply Kd.R_drewN | apply Kd.R_drew)); exact HO_8.out) (Kd.R_typed (by (with_reducible repeat (first | apply Kd.R_alloc | apply Kd.R_drewN | apply Kd.R_drew)); exact HO198.out)) (by decide) hg); have n1_ := Aside0.mk (Kd.R_after (ok := (fun k_ => k_ ≠ gb192)) (by (with_reducible repeat (first | apply Kd.R_alloc | apply Kd.R_drewN | apply Kd.R_drew)); exact HO_12.out) hg hat); have n2_ := Aside0.mk (blk_grown (g := gb175) (o := .cells #[.int .i64 a2_0, .int .i64 a2_1] 23 (0, 0)) (by (with_reducible repeat (first | refine blk_drewN ?_ _ | refine blk_drew ?_ | refine blk_alloc ?_ _)); exact BK175.out) hg (Kd.R_ne HO198.out BK175.out (by decide))); have n3_ := Aside0.mk (blk_grown (g := gb192) (o := .cells #[.int .i64 (rd t177 (ji33)), .int .i64 0, .int .i64 0] 43 (0, 0)) (by (with_reducible repeat (first | refine blk_drewN ?_ _ | refine blk_drew ?_ | refine blk_alloc ?_ _)); exact BK192.out) hg (Kd.R_away HO198.out (fun _ hk => hk.2))); have n4_ := Aside0.mk (hb); have n5_ := Aside0.mk (ho); clear HO_8; clear HO_12; clear BK175; clear BK192; clear HB; clear HO198; have HO_8 := n0_; have HO_12 := n1_; have BK175 := n2_; have BK192 := n3_; have HB := n4_; have HO201 := n5_; clear n0_ n1_ n2_ n3_ n4_ n5_; clear ho hb hg hat; obtain ⟨Ao52, co52, eo52⟩ := Kd.R_slice HO201.out; subst eo52) | ((with_reducible refine gate_callee (f := 45) rfl ?_); refine goesL_ (some 94) rfl rfl Try.func45 (by kernel_rfl) rfl #[.slice Ao52 y199.length co52] rfl (by (try simp only [List.map_toArray, List.map_cons, List.map_nil]); first | done | rfl | (simp only [List.length_drop, List.length_take]; rfl)) ?_; (with_reducible refine (share_Open.calls _ _ y199 t202 t203 t204 _ ?side1 ?side2 A38.out).mono ?_); (case side1 => repeat (first | exact (Kd.R_reads' HO201.out).2.2 | (with_reducible refine Kd.C_alloc ?_ _) | (with_reducible refine Kd.C_drewN ?_ _) | (with_reducible refine Kd.C_drew ?_))); (case side2 => exact (Kd.R_reads' HO201.out).2.1); rintro e w53 ⟨rfl, hb⟩; refine ⟨_, rfl, ?_⟩; have n0_ := Aside0.mk (Kd.R_below (by (with_reducible repeat (first | apply Kd.R_alloc | apply Kd.R_drewN | apply Kd.R_drew)); exact HO_8.out) hb); have n1_ := Aside0.mk (Kd.R_below (by (with_reducible repeat (first | apply Kd.R_alloc | apply Kd.R_drewN | apply Kd.R_drew)); exact HO_12.out) hb); have n2_ := Aside0.mk (Kd.R_below (by (with_reducible repeat (first | apply Kd.R_alloc | apply Kd.R_drewN | apply Kd.R_drew)); exact HO201.out) hb); have n3_ := Aside0.mk (blk_below (g := gb175) (o := .cells #[.int .i64 a2_0, .int .i64 a2_1] 23 (0, 0)) (by (with_reducible repeat (first | refine blk_drewN ?_ _ | refine blk_drew ?_ | refine blk_alloc ?_ _)); exact BK175.out) hb); have n4_ := Aside0.mk (blk_below (g := gb192) (o := .cells #[.int .i64 (rd t177 (ji33)), .int .i64 0, .int .i64 0] 43 (0, 0)) (by (with_reducible repeat (first | refine blk_drewN ?_ _ | refine blk_drew ?_ | refine blk_alloc ?_ _)); exact BK192.out) hb); have n5_ := Aside0.mk (below_step (by repeat (first | (with_reducible first | exact HB.out | apply below_alloc | apply pw_below_drewN | apply below_drew1 | refine below_set ?_ GE175.out | refine below_set ?_ GE192.out) | exact HB.out)) hb); clear HO_8; clear HO_12; clear HO201; clear BK175; clear BK192; clear HB; have HO_8 := n0_; have HO_12 := n1_; have HO201 := n2_; have BK175 := n3_; have BK192 := n4_; have HB := n5_; clear n0_ n1_ n2_ n3_ n4_ n5_; (try clear hb); (try clear hb2); (try clear hk); (try clear hi)) | ((with_reducible refine gate_dst (N := 18) rfl ?_); (try (refine gate_guard (by rfl) ?_; dsimp only)); refine box_event ?hg (N := 18) ?hd (cs := #[.int .i64 0, .int .i64 0]) (t := 23) ?hr ?_; (case hd => rfl); (case hg => rfl); (case hr => first | (go_simp; done) | (go_simp; rfl)); intro gb205 hg w54 hbox hb; have n0_ := Aside0.mk (Kd.R_below (by (with_reducible repeat (first | apply Kd.R_alloc | apply Kd.R_drewN | apply Kd.R_drew)); exact HO_8.out) hb); have n1_ := Aside0.mk (Kd.R_below (by (with_reducible repeat (first | apply Kd.R_alloc | apply Kd.R_drewN | apply Kd.R_drew)); exact HO_12.out) hb); have n2_ := Aside0.mk (Kd.R_below (by (with_reducible repeat (first | apply Kd.R_alloc | apply Kd.R_drewN | apply Kd.R_drew)); exact HO201.out) hb); have n3_ := Aside0.mk (blk_below (g := gb175) (o := .cells #[.int .i64 a2_0, .int .i64 a2_1] 23 (0, 0)) (by (with_reducible repeat (first | refine blk_drewN ?_ _ | refine blk_drew ?_ | refine blk_alloc ?_ _)); exact BK175.out) hb); have n4_ := Aside0.mk (blk_below (g := gb192) (o := .cells #[.int .i64 (rd t177 (ji33)), .int .i64 0, .int .i64 0] 43 (0, 0)) (by (with_reducible repeat (first | refine blk_drewN ?_ _ | refine blk_drew ?_ | refine blk_alloc ?_ _)); exact BK192.out) hb); have n5_ := Aside0.mk (below_step (by repeat (first | (with_reducible first | exact HB.out | apply below_alloc | apply pw_below_drewN | apply below_drew1 | refine below_set ?_ GE175.out | refine below_set ?_ GE192.out) | exact HB.out)) hb); have n6_ := Aside0.mk (hbox); have n7_ := Aside0.mk ((by rw [hg]; exact (below_size (by repeat (first | (with_reducible first | exact HB.out | apply below_alloc | apply pw_below_drewN | apply below_drew1 | refine below_set ?_ GE175.out | refine below_set ?_ GE192.out) | exact HB.out))) : w.heap.size ≤ gb205)); have n8_ := Aside0.mk ((by rw [hg]; exact (below_size (by repeat (first | (with_reducible first | exact HB.out | apply below_alloc | apply pw_below_drewN | apply below_drew1 | refine below_set ?_ GE175.out | refine below_set ?_ GE192.out) | exact HB.out))) : w.heap.size ≤ gb205)); have n9_ := Aside0.mk ((by rw [hg]; exact Nat.ne_of_lt (blk_lt (g := gb175) (o := .cells #[.int .i64 a2_0, .int .i64 a2_1] 23 (0, 0)) (by (with_reducible repeat (first | refine blk_drewN ?_ _ | refine blk_drew ?_ | refine blk_alloc ?_ _)); exact BK175.out)) : gb175 ≠ gb205)); have n10_ := Aside0.mk ((by rw [hg]; exact Nat.ne_of_gt (blk_lt (g := gb175) (o := .cells #[.int .i64 a2_0, .int .i64 a2_1] 23 (0, 0)) (by (with_reducible repeat (first | refine blk_drewN ?_ _ | refine blk_drew ?_ | refine blk_alloc ?_ _)); exact BK175.out)) : gb205 ≠ gb175)); have n11_ := Aside0.mk ((by rw [hg]; exact Nat.ne_of_lt (blk_lt (g := gb192) (o := .cells #[.int .i64 (rd t177 (ji33)), .int .i64 0, .int .i64 0] 43 (0, 0)) (by (with_reducible repeat (first | refine blk_drewN ?_ _ | refine blk_drew ?_ | refine blk_alloc ?_ _)); exact BK192.out)) : gb192 ≠ gb205)); have n12_ := Aside0.mk ((by rw [hg]; exact Nat.ne_of_gt (blk_lt (g := gb192) (o := .cells #[.int .i64 (rd t177 (ji33)), .int .i64 0, .int .i64 0] 43 (0, 0)) (by (with_reducible repeat (first | refine blk_drewN ?_ _ | refine blk_drew ?_ | refine blk_alloc ?_ _)); exact BK192.out)) : gb205 ≠ gb192)); clear HO_8; clear HO_12; clear HO201; clear BK175; clear BK192; clear HB; have HO_8 := n0_; have HO_12 := n1_; have HO201 := n2_; have BK175 := n3_; have BK192 := n4_; have HB := n5_; have BK205 := n6_; have GW205 := n7_; have GE205 := n8_; have NB175_205 := n9_; have NB205_175 := n10_; have NB192_205 := n11_; have NB205_192 := n12_; clear n0_ n1_ n2_ n3_ n4_ n5_ n6_ n7_ n8_ n9_ n10_ n11_ n12_; clear hb hbox hg; have hnb55 := NB205_175.out; have hnc55 := NB175_205.out; have hnb56 := NB205_192.out; have hnc56 := NB192_205.out; have hcz57_0 : w54.cell? ⟨gb205, 0, none⟩ = some (.int .i64 0) := (blk_cell BK205.out 0).trans rfl; have hcz57_1 : w54.cell? ⟨gb205, 1, none⟩ = some (.int .i64 0) := (blk_cell BK205.out 1).trans rfl; have hfz57_0 := blk_frozen BK205.out 0; have hfz57_1 := blk_frozen BK205.out 1) | ((with_reducible refine gate_callee (f := 47) rfl ?_); refine goesL_ (some 101) rfl rfl Try.func47 (by kernel_rfl) rfl #[.slice Ao52 y199.length co52, .int .i64 ji33] rfl (by (try simp only [List.map_toArray, List.map_cons, List.map_nil]); first | done | (simp only [hji33]; rfl) | rfl | (simp only [List.length_drop, List.length_take]; rfl)) ?_; (with_reducible refine (share_Weight.calls k2 _ _ y199 ji33 t206 t207 t208 _ ?side1 ?side2 A39.out).mono ?_); (case side1 => refine (Kd.R_reads' (e := 43) (base := w.heap.size) (ok := fun k_ => (some k_ ≠ (.slice Ao49 x12_2.length co49 : Value).ownBlock ∧ k_ ≠ gb192)) (n := y199.length) (c := co52) ?_).2.2; exact (by (with_reducible repeat (first | apply Kd.R_alloc | apply Kd.R_drewN | apply Kd.R_drew)); exact (Kd.R_mono (Kd.R_far (p := ⟨gb205, 1, none⟩) (Kd.R_far (p := ⟨gb205, 0, none⟩) (Kd.R_types HO201.out BK205.out (by decide)) (fun _ hk => hk.2) (.int .i64 t202)) (fun _ hk => hk.2) (.int .i64 t203)) (fun _ h_ => h_.1)))); (case side2 => exact (Kd.R_reads' HO201.out).2.1); rintro e w58 ⟨rfl, hb⟩; refine ⟨_, rfl, ?_⟩; have n0_ := Aside0.mk (Kd.R_below (by (with_reducible repeat (first | apply Kd.R_alloc | apply Kd.R_drewN | apply Kd.R_drew)); exact (Kd.R_mono (Kd.R_far (p := ⟨gb205, 1, none⟩) (Kd.R_far (p := ⟨gb205, 0, none⟩) (Kd.R_types HO_8.out BK205.out (by decide)) (fun _ hk => hk.2) (.int .i64 t202)) (fun _ hk => hk.2) (.int .i64 t203)) (fun _ h_ => h_.1))) hb); have n1_ := Aside0.mk (Kd.R_below (by (with_reducible repeat (first | apply Kd.R_alloc | apply Kd.R_drewN | apply Kd.R_drew)); exact (Kd.R_mono (Kd.R_far (p := ⟨gb205, 1, none⟩) (Kd.R_far (p := ⟨gb205, 0, none⟩) (Kd.R_types HO_12.out BK205.out (by decide)) (fun _ hk => hk.2) (.int .i64 t202)) (fun _ hk => hk.2) (.int .i64 t203)) (fun _ h_ => h_.1))) hb); have n2_ := Aside0.mk (Kd.R_below (by (with_reducible repeat (first | apply Kd.R_alloc | apply Kd.R_drewN | apply Kd.R_drew)); exact (Kd.R_mono (Kd.R_far (p := ⟨gb205, 1, none⟩) (Kd.R_far (p := ⟨gb205, 0, none⟩) (Kd.R_types HO201.out BK205.out (by decide)) (fun _ hk => hk.2) (.int .i64 t202)) (fun _ hk => hk.2) (.int .i64 t203)) (fun _ h_ => h_.1))) hb); have n3_ := Aside0.mk (blk_below (g := gb175) (o := .cells #[.int .i64 a2_0, .int .i64 a2_1] 23 (0, 0)) (by (with_reducible repeat (first | refine blk_drewN ?_ _ | refine blk_drew ?_ | refine blk_alloc ?_ _)); refine blk_far ?_ NB175_205.out _; (with_reducible repeat (first | refine blk_drewN ?_ _ | refine blk_drew ?_ | refine blk_alloc ?_ _)); refine blk_far ?_ NB175_205.out _; (with_reducible repeat (first | refine blk_drewN ?_ _ | refine blk_drew ?_ | refine blk_alloc ?_ _)); exact BK175.out) hb); have n4_ := Aside0.mk (blk_below (g := gb192) (o := .cells #[.int .i64 (rd t177 (ji33)), .int .i64 0, .int .i64 0] 43 (0, 0)) (by (with_reducible repeat (first | refine blk_drewN ?_ _ | refine blk_drew ?_ | refine blk_alloc ?_ _)); refine blk_far ?_ NB192_205.out _; (with_reducible repeat (first | refine blk_drewN ?_ _ | refine blk_drew ?_ | refine blk_alloc ?_ _)); refine blk_far ?_ NB192_205.out _; (with_reducible repeat (first | refine blk_drewN ?_ _ | refine blk_drew ?_ | refine blk_alloc ?_ _)); exact BK192.out) hb); have n5_ := Aside0.mk (blk_below (g := gb205) (o := .cells #[.int .i64 t202, .int .i64 t203] 23 (0, 0)) (by (with_reducible repeat (first | refine blk_drewN ?_ _ | refine blk_drew ?_ | refine blk_alloc ?_ _)); refine blk_put (cs := #[.int .i64 t202, .int .i64 0]) ?_ 1 _ rfl; (with_reducible repeat (first | refine blk_drewN ?_ _ | refine blk_drew ?_ | refine blk_alloc ?_ _)); refine blk_put (cs := #[.int .i64 0, .int .i64 0]) ?_ 0 _ rfl; (with_reducible repeat (first | refine blk_drewN ?_ _ | refine blk_drew ?_ | refine blk_alloc ?_ _)); exact BK205.out) hb); have n6_ := Aside0.mk (below_step (by repeat (first | (with_reducible first | exact HB.out | apply below_alloc | apply pw_below_drewN | apply below_drew1 | refine below_set ?_ GE175.out | refine below_set ?_ GE192.out | refine below_set ?_ GE205.out) | exact HB.out)) hb); clear HO_8; clear HO_12; clear HO201; clear BK175; clear BK192; clear BK205; clear HB; have HO_8 := n0_; have HO_12 := n1_; have HO201 := n2_; have BK175 := n3_; have BK192 := n4_; have BK205 := n5_; have HB := n6_; clear n0_ n1_ n2_ n3_ n4_ n5_ n6_; (try clear hb); (try clear hb2); (try clear hk); (try clear hi)) | ((with_reducible refine gate_dst (N := 20) rfl ?_); (try (refine gate_guard (by rfl) ?_; dsimp only)); refine box_event ?hg (N := 20) ?hd (cs := #[.int .i64 0, .int .i64 0]) (t := 23) ?hr ?_; (case hd => rfl); (case hg => rfl); (case hr => first | (go_simp; done) | (go_simp; rfl)); intro gb209 hg w59 hbox hb; have n0_ := Aside0.mk (Kd.R_below (by (with_reducible repeat (first | apply Kd.R_alloc | apply Kd.R_drewN | apply Kd.R_drew)); exact HO_8.out) hb); have n1_ := Aside0.mk (Kd.R_below (by (with_reducible repeat (first | apply Kd.R_alloc | apply Kd.R_drewN | apply Kd.R_drew)); exact HO_12.out) hb); have n2_ := Aside0.mk (Kd.R_below (by (with_reducible repeat (first | apply Kd.R_alloc | apply Kd.R_drewN | apply Kd.R_drew)); exact HO201.out) hb); have n3_ := Aside0.mk (blk_below (g := gb175) (o := .cells #[.int .i64 a2_0, .int .i64 a2_1] 23 (0, 0)) (by (with_reducible repeat (first | refine blk_drewN ?_ _ | refine blk_drew ?_ | refine blk_alloc ?_ _)); exact BK175.out) hb); have n4_ := Aside0.mk (blk_below (g := gb192) (o := .cells #[.int .i64 (rd t177 (ji33)), .int .i64 0, .int .i64 0] 43 (0, 0)) (by (with_reducible repeat (first | refine blk_drewN ?_ _ | refine blk_drew ?_ | refine blk_alloc ?_ _)); exact BK192.out) hb); have n5_ := Aside0.mk (blk_below (g := gb205) (o := .cells #[.int .i64 t202, .int .i64 t203] 23 (0, 0)) (by (with_reducible repeat (first | refine blk_drewN ?_ _ | refine blk_drew ?_ | refine blk_alloc ?_ _)); exact BK205.out) hb); have n6_ := Aside0.mk (below_step (by repeat (first | (with_reducible first | exact HB.out | apply below_alloc | apply pw_below_drewN | apply below_drew1 | refine below_set ?_ GE175.out | refine below_set ?_ GE192.out | refine below_set ?_ GE205.out) | exact HB.out)) hb); have n7_ := Aside0.mk (hbox); have n8_ := Aside0.mk ((by rw [hg]; exact (below_size (by repeat (first | (with_reducible first | exact HB.out | apply below_alloc | apply pw_below_drewN | apply below_drew1 | refine below_set ?_ GE175.out | refine below_set ?_ GE192.out | refine below_set ?_ GE205.out) | exact HB.out))) : w.heap.size ≤ gb209)); have n9_ := Aside0.mk ((by rw [hg]; exact (below_size (by repeat (first | (with_reducible first | exact HB.out | apply below_alloc | apply pw_below_drewN | apply below_drew1 | refine below_set ?_ GE175.out | refine below_set ?_ GE192.out | refine below_set ?_ GE205.out) | exact HB.out))) : w.heap.size ≤ gb209)); have n10_ := Aside0.mk ((by rw [hg]; exact Nat.ne_of_lt (blk_lt (g := gb175) (o := .cells #[.int .i64 a2_0, .int .i64 a2_1] 23 (0, 0)) (by (with_reducible repeat (first | refine blk_drewN ?_ _ | refine blk_drew ?_ | refine blk_alloc ?_ _)); exact BK175.out)) : gb175 ≠ gb209)); have n11_ := Aside0.mk ((by rw [hg]; exact Nat.ne_of_gt (blk_lt (g := gb175) (o := .cells #[.int .i64 a2_0, .int .i64 a2_1] 23 (0, 0)) (by (with_reducible repeat (first | refine blk_drewN ?_ _ | refine blk_drew ?_ | refine blk_alloc ?_ _)); exact BK175.out)) : gb209 ≠ gb175)); have n12_ := Aside0.mk ((by rw [hg]; exact Nat.ne_of_lt (blk_lt (g := gb192) (o := .cells #[.int .i64 (rd t177 (ji33)), .int .i64 0, .int .i64 0] 43 (0, 0)) (by (with_reducible repeat (first | refine blk_drewN ?_ _ | refine blk_drew ?_ | refine blk_alloc ?_ _)); exact BK192.out)) : gb192 ≠ gb209)); have n13_ := Aside0.mk ((by rw [hg]; exact Nat.ne_of_gt (blk_lt (g := gb192) (o := .cells #[.int .i64 (rd t177 (ji33)), .int .i64 0, .int .i64 0] 43 (0, 0)) (by (with_reducible repeat (first | refine blk_drewN ?_ _ | refine blk_drew ?_ | refine blk_alloc ?_ _)); exact BK192.out)) : gb209 ≠ gb192)); have n14_ := Aside0.mk ((by rw [hg]; exact Nat.ne_of_lt (blk_lt (g := gb205) (o := .cells #[.int .i64 t202, .int .i64 t203] 23 (0, 0)) (by (with_reducible repeat (first | refine blk_drewN ?_ _ | refine blk_drew ?_ | refine blk_alloc ?_ _)); exact BK205.out)) : gb205 ≠ gb209)); have n15_ := Aside0.mk ((by rw [hg]; exact Nat.ne_of_gt (blk_lt (g := gb205) (o := .cells #[.int .i64 t202, .int .i64 t203] 23 (0, 0)) (by (with_reducible repeat (first | refine blk_drewN ?_ _ | refine blk_drew ?_ | refine blk_alloc ?_ _)); exact BK205.out)) : gb209 ≠ gb205)); clear HO_8; clear HO_12; clear HO201; clear BK175; clear BK192; clear BK205; clear HB; have HO_8 := n0_; have HO_12 := n1_; have HO201 := n2_; have BK175 := n3_; have BK192 := n4_; have BK205 := n5_; have HB := n6_; have BK209 := n7_; have GW209 := n8_; have GE209 := n9_; have NB175_209 := n10_; have NB209_175 := n11_; have NB192_209 := n12_; have NB209_192 := n13_; have NB205_209 := n14_; have NB209_205 := n15_; clear n0_ n1_ n2_ n3_ n4_ n5_ n6_ n7_ n8_ n9_ n10_ n11_ n12_ n13_ n14_ n15_; clear hb hbox hg; have hnb60 := NB209_175.out; have hnc60 := NB175_209.out; have hnb61 := NB209_192.out; have hnc61 := NB192_209.out; have hnb62 := NB209_205.out; have hnc62 := NB205_209.out; have hcz63_0 : w59.cell? ⟨gb209, 0, none⟩ = some (.int .i64 0) := (blk_cell BK209.out 0).trans rfl; have hcz63_1 : w59.cell? ⟨gb209, 1, none⟩ = some (.int .i64 0) := (blk_cell BK209.out 1).trans rfl; have hfz63_0 := blk_frozen BK209.out 0; have hfz63_1 := blk_frozen BK209.out 1) | ((with_reducible refine gate_callee (f := 27) rfl ?_); refine goesL_ (some 106) rfl rfl Try.func27 (by kernel_rfl) rfl #[.agg #[.int .i64 t206, .int .i64 t207]] rfl (by (try simp only [List.map_toArray, List.map_cons, List.map_nil]); first | done | rfl | (simp only [List.length_drop, List.length_take]; rfl)) ?_; (with_reducible refine (selvedgeref03_Inv.calls k2 t206 t207 t210 t211 t212 _ A40.out).mono ?_); rintro e w64 ⟨rfl, hb⟩; refine ⟨_, rfl, ?_⟩; have n0_ := Aside0.mk (Kd.R_below (by (with_reducible repeat (first | apply Kd.R_alloc | apply Kd.R_drewN | apply Kd.R_drew)); exact (Kd.R_mono (Kd.R_far (p := ⟨gb209, 1, none⟩) (Kd.R_far (p := ⟨gb209, 0, none⟩) (Kd.R_types HO_8.out BK209.out (by decide)) (fun _ hk => hk.2) (.int .i64 t206)) (fun _ hk => hk.2) (.int .i64 t207)) (fun _ h_ => h_.1))) hb); have n1_ := Aside0.mk (Kd.R_below (by (with_reducible repeat (first | apply Kd.R_alloc | apply Kd.R_drewN | apply Kd.R_drew)); exact (Kd.R_mono (Kd.R_far (p := ⟨gb209, 1, none⟩) (Kd.R_far (p := ⟨gb209, 0, none⟩) (Kd.R_types HO_12.out BK209.out (by decide)) (fun _ hk => hk.2) (.int .i64 t206)) (fun _ hk => hk.2) (.int .i64 t207)) (fun _ h_ => h_.1))) hb); have n2_ := Aside0.mk (Kd.R_below (by (with_reducible repeat (first | apply Kd.R_alloc | apply Kd.R_drewN | apply Kd.R_drew)); exact (Kd.R_mono (Kd.R_far (p := ⟨gb209, 1, none⟩) (Kd.R_far (p := ⟨gb209, 0, none⟩) (Kd.R_types HO201.out BK209.out (by decide)) (fun _ hk => hk.2) (.int .i64 t206)) (fun _ hk => hk.2) (.int .i64 t207)) (fun _ h_ => h_.1))) hb); have n3_ := Aside0.mk (blk_below (g := gb175) (o := .cells #[.int .i64 a2_0, .int .i64 a2_1] 23 (0, 0)) (by (with_reducible repeat (first | refine blk_drewN ?_ _ | refine blk_drew ?_ | refine blk_alloc ?_ _)); refine blk_far ?_ NB175_209.out _; (with_reducible repeat (first | refine blk_drewN ?_ _ | refine blk_drew ?_ | refine blk_alloc ?_ _)); refine blk_far ?_ NB175_209.out _; (with_reducible repeat (first | refine blk_drewN ?_ _ | refine blk_drew ?_ | refine blk_alloc ?_ _)); exact BK175.out) hb); have n4_ := Aside0.mk (blk_below (g := gb192) (o := .cells #[.int .i64 (rd t177 (ji33)), .int .i64 0, .int .i64 0] 43 (0, 0)) (by (with_reducible repeat (first | refine blk_drewN ?_ _ | refine blk_drew ?_ | refine blk_alloc ?_ _)); refine blk_far ?_ NB192_209.out _; (with_reducible repeat (first | refine blk_drewN ?_ _ | refine blk_drew ?_ | refine blk_alloc ?_ _)); refine blk_far ?_ NB192_209.out _; (with_reducible repeat (first | refine blk_drewN ?_ _ | refine blk_drew ?_ | refine blk_alloc ?_ _)); exact BK192.out) hb); have n5_ := Aside0.mk (blk_below (g := gb205) (o := .cells #[.int .i64 t202, .int .i64 t203] 23 (0, 0)) (by (with_reducible repeat (first | refine blk_drewN ?_ _ | refine blk_drew ?_ | refine blk_alloc ?_ _)); refine blk_far ?_ NB205_209.out _; (with_reducible repeat (first | refine blk_drewN ?_ _ | refine blk_drew ?_ | refine blk_alloc ?_ _)); refine blk_far ?_ NB205_209.out _; (with_reducible repeat (first | refine blk_drewN ?_ _ | refine blk_drew ?_ | refine blk_alloc ?_ _)); exact BK205.out) hb); have n6_ := Aside0.mk (blk_below (g := gb209) (o := .cells #[.int .i64 t206, .int .i64 t207] 23 (0, 0)) (by (with_reducible repeat (first | refine blk_drewN ?_ _ | refine blk_drew ?_ | refine blk_alloc ?_ _)); refine blk_put (cs := #[.int .i64 t206, .int .i64 0]) ?_ 1 _ rfl; (with_reducible repeat (first | refine blk_drewN ?_ _ | refine blk_drew ?_ | refine blk_alloc ?_ _)); refine blk_put (cs := #[.int .i64 0, .int .i64 0]) ?_ 0 _ rfl; (with_reducible repeat (first | refine blk_drewN ?_ _ | refine blk_drew ?_ | refine blk_alloc ?_ _)); exact BK209.out) hb); have n7_ := Aside0.mk (below_step (by repeat (first | (with_reducible first | exact HB.out | apply below_alloc | apply pw_below_drewN | apply below_drew1 | refine below_set ?_ GE175.out | refine below_set ?_ GE192.out | refine below_set ?_ GE205.out | refine below_set ?_ GE209.out) | exact HB.out)) hb); clear HO_8; clear HO_12; clear HO201; clear BK175; clear BK192; clear BK205; clear BK209; clear HB; have HO_8 := n0_; have HO_12 := n1_; have HO201 := n2_; have BK175 := n3_; have BK192 := n4_; have BK205 := n5_; have BK209 := n6_; have HB := n7_; clear n0_ n1_ n2_ n3_ n4_ n5_ n6_ n7_; (try clear hb); (try clear hb2); (try clear hk); (try clear hi)) | ((with_reducible refine gate_dst (N := 22) rfl ?_); (try (refine gate_guard (by rfl) ?_; dsimp only)); refine box_event ?hg (N := 22) ?hd (cs := #[.int .i64 0, .int .i64 0]) (t := 23) ?hr ?_; (case hd => rfl); (case hg => rfl); (case hr => first | (go_simp; done) | (go_simp; rfl)); intro gb213 hg w65 hbox hb; have n0_ := Aside0.mk (Kd.R_below (by (with_reducible repeat (first | apply Kd.R_alloc | apply Kd.R_drewN | apply Kd.R_drew)); exact HO_8.out) hb); have n1_ := Aside0.mk (Kd.R_below (by (with_reducible repeat (first | apply Kd.R_alloc | apply Kd.R_drewN | apply Kd.R_drew)); exact HO_12.out) hb); have n2_ := Aside0.mk (Kd.R_below (by (with_reducible repeat (first | apply Kd.R_alloc | apply Kd.R_drewN | apply Kd.R_drew)); exact HO201.out) hb); have n3_ := Aside0.mk (blk_below (g := gb175) (o := .cells #[.int .i64 a2_0, .int .i64 a2_1] 23 (0, 0)) (by (with_reducible repeat (first | refine blk_drewN ?_ _ | refine blk_drew ?_ | refine blk_alloc ?_ _)); exact BK175.out) hb); have n4_ := Aside0.mk (blk_below (g := gb192) (o := .cells #[.int .i64 (rd t177 (ji33)), .int .i64 0, .int .i64 0] 43 (0, 0)) (by (with_reducible repeat (first | refine blk_drewN ?_ _ | refine blk_drew ?_ | refine blk_alloc ?_ _)); exact BK192.out) hb); have n5_ := Aside0.mk (blk_below (g := gb205) (o := .cells #[.int .i64 t202, .int .i64 t203] 23 (0, 0)) (by (with_reducible repeat (first | refine blk_drewN ?_ _ | refine blk_drew ?_ | refine blk_alloc ?_ _)); exact BK205.out) hb); have n6_ := Aside0.mk (blk_below (g := gb209) (o := .cells #[.int .i64 t206, .int .i64 t207] 23 (0, 0)) (by (with_reducible repeat (first | refine blk_drewN ?_ _ | refine blk_drew ?_ | refine blk_alloc ?_ _)); exact BK209.out) hb); have n7_ := Aside0.mk (below_step (by repeat (first | (with_reducible first | exact HB.out | apply below_alloc | apply pw_below_drewN | apply below_drew1 | refine below_set ?_ GE175.out | refine below_set ?_ GE192.out | refine below_set ?_ GE205.out | refine below_set ?_ GE209.out) | exact HB.out)) hb); have n8_ := Aside0.mk (hbox); have n9_ := Aside0.mk ((by rw [hg]; exact (below_size (by repeat (first | (with_reducible first | exact HB.out | apply below_alloc | apply pw_below_drewN | apply below_drew1 | refine below_set ?_ GE175.out | refine below_set ?_ GE192.out | refine below_set ?_ GE205.out | refine below_set ?_ GE209.out) | exact HB.out))) : w.heap.size ≤ gb213)); have n10_ := Aside0.mk ((by rw [hg]; exact (below_size (by repeat (first | (with_reducible first | exact HB.out | apply below_alloc | apply pw_below_drewN | apply below_drew1 | refine below_set ?_ GE175.out | refine below_set ?_ GE192.out | refine below_set ?_ GE205.out | refine below_set ?_ GE209.out) | exact HB.out))) : w.heap.size ≤ gb213)); have n11_ := Aside0.mk ((by rw [hg]; exact Nat.ne_of_lt (blk_lt (g := gb175) (o := .cells #[.int .i64 a2_0, .int .i64 a2_1] 23 (0, 0)) (by (with_reducible repeat (first | refine blk_drewN ?_ _ | refine blk_drew ?_ | refine blk_alloc ?_ _)); exact BK175.out)) : gb175 ≠ gb213)); have n12_ := Aside0.mk ((by rw [hg]; exact Nat.ne_of_gt (blk_lt (g := gb175) (o := .cells #[.int .i64 a2_0, .int .i64 a2_1] 23 (0, 0)) (by (with_reducible repeat (first | refine blk_drewN ?_ _ | refine blk_drew ?_ | refine blk_alloc ?_ _)); exact BK175.out)) : gb213 ≠ gb175)); have n13_ := Aside0.mk ((by rw [hg]; exact Nat.ne_of_lt (blk_lt (g := gb192) (o := .cells #[.int .i64 (rd t177 (ji33)), .int .i64 0, .int .i64 0] 43 (0, 0)) (by (with_reducible repeat (first | refine blk_drewN ?_ _ | refine blk_drew ?_ | refine blk_alloc ?_ _)); exact BK192.out)) : gb192 ≠ gb213)); have n14_ := Aside0.mk ((by rw [hg]; exact Nat.ne_of_gt (blk_lt (g := gb192) (o := .cells #[.int .i64 (rd t177 (ji33)), .int .i64 0, .int .i64 0] 43 (0, 0)) (by (with_reducible repeat (first | refine blk_drewN ?_ _ | refine blk_drew ?_ | refine blk_alloc ?_ _)); exact BK192.out)) : gb213 ≠ gb192)); have n15_ := Aside0.mk ((by rw [hg]; exact Nat.ne_of_lt (blk_lt (g := gb205) (o := .cells #[.int .i64 t202, .int .i64 t203] 23 (0, 0)) (by (with_reducible repeat (first | refine blk_drewN ?_ _ | refine blk_drew ?_ | refine blk_alloc ?_ _)); exact BK205.out)) : gb205 ≠ gb213)); have n16_ := Aside0.mk ((by rw [hg]; exact Nat.ne_of_gt (blk_lt (g := gb205) (o := .cells #[.int .i64 t202, .int .i64 t203] 23 (0, 0)) (by (with_reducible repeat (first | refine blk_drewN ?_ _ | refine blk_drew ?_ | refine blk_alloc ?_ _)); exact BK205.out)) : gb213 ≠ gb205)); have n17_ := Aside0.mk ((by rw [hg]; exact Nat.ne_of_lt (blk_lt (g := gb209) (o := .cells #[.int .i64 t206, .int .i64 t207] 23 (0, 0)) (by (with_reducible repeat (first | refine blk_drewN ?_ _ | refine blk_drew ?_ | refine blk_alloc ?_ _)); exact BK209.out)) : gb209 ≠ gb213)); have n18_ := Aside0.mk ((by rw [hg]; exact Nat.ne_of_gt (blk_lt (g := gb209) (o := .cells #[.int .i64 t206, .int .i64 t207] 23 (0, 0)) (by (with_reducible repeat (first | refine blk_drewN ?_ _ | refine blk_drew ?_ | refine blk_alloc ?_ _)); exact BK209.out)) : gb213 ≠ gb209)); clear HO_8; clear HO_12; clear HO201; clear BK175; clear BK192; clear BK205; clear BK209; clear HB; have HO_8 := n0_; have HO_12 := n1_; have HO201 := n2_; have BK175 := n3_; have BK192 := n4_; have BK205 := n5_; have BK209 := n6_; have HB := n7_; have BK213 := n8_; have GW213 := n9_; have GE213 := n10_; have NB175_213 := n11_; have NB213_175 := n12_; have NB192_213 := n13_; have NB213_192 := n14_; have NB205_213 := n15_; have NB213_205 := n16_; have NB209_213 := n17_; have NB213_209 := n18_; clear n0_ n1_ n2_ n3_ n4_ n5_ n6_ n7_ n8_ n9_ n10_ n11_ n12_ n13_ n14_ n15_ n16_ n17_ n18_; clear hb hbox hg; have hnb66 := NB213_175.out; have hnc66 := NB175_213.out; have hnb67 := NB213_192.out; have hnc67 := NB192_213.out; have hnb68 := NB213_205.out; have hnc68 := NB205_213.out; have hnb69 := NB213_209.out; have hnc69 := NB209_213.out; have hcz70_0 : w65.cell? ⟨gb213, 0, none⟩ = some (.int .i64 0) := (blk_cell BK213.out 0).trans rfl; have hcz70_1 : w65.cell? ⟨gb213, 1, none⟩ = some (.int .i64 0) := (blk_cell BK213.out 1).trans rfl; have hfz70_0 := blk_frozen BK213.out 0; have hfz70_1 := blk_frozen BK213.out 1))
                      (try simp only [Act.put, List.setIfInBounds_toArray, List.set_cons_zero, List.set_cons_succ])
                      go_cut [118] (fun v118 wc => ∃ (kq : Nat) (x118_40 : Bool), v118 = .bool x118_40 ∧ Aside0 (selvedgelaw04_ShareHides.j2 kq (l0.length : Int) y199 x118_40 a2_0 a2_1 t202 t203 t210 t211 = some r) ∧ Aside0 (kq ≤ k2) ∧ Aside0 (Kd.R k43 43 wc w.heap.size (fun k_ => k_ ≠ gb192) (.slice Ao52 y199.length co52) y199) ∧ Aside0 (wc.heap[gb175]? = some (.cells #[.int .i64 a2_0, .int .i64 a2_1] 23 (0, 0))) ∧ Aside0 (wc.heap[gb192]? = some (.cells #[.int .i64 (rd t177 (ji33)), .int .i64 0, .int .i64 0] 43 (0, 0))) ∧ Aside0 (wc.heap[gb205]? = some (.cells #[.int .i64 t202, .int .i64 t203] 23 (0, 0))) ∧ Aside0 (wc.heap[gb209]? = some (.cells #[.int .i64 t206, .int .i64 t207] 23 (0, 0))) ∧ Aside0 (wc.heap[gb213]? = some (.cells #[.int .i64 t210, .int .i64 t211] 23 (0, 0))) ∧ Aside0 (Below w.heap.size w wc))
                      case first =>
                        have H := HC41.out
                        clear HC41
                        by_cases c71 : t204 = 0
                        · rw [if_pos c71] at H
                          have c71b0 : (t204 == 0) = true := beq_iff_eq.mpr c71
                          have c71b1 : (t204 != 0) = false := bne_eq_false_iff_eq.mpr c71
                          clear c71
                          (first | rw [c71b0] | (simp only [i64_w, i32_w]; rw [c71b0]) | skip)
                          by_cases c72 : t208 = 0
                          · rw [if_pos c72] at H
                            have c72b0 : (t208 == 0) = true := beq_iff_eq.mpr c72
                            have c72b1 : (t208 != 0) = false := bne_eq_false_iff_eq.mpr c72
                            clear c72
                            have H' := Aside0.mk H
                            clear H
                            go_wp2
                            go_meet
                            case rel => exact ⟨_, ((t212 != 0)), (by first | rfl | (simp; done) | (simp [*]; done)), H', ⟨by have := HJ7.out; have := HK2.out; first | omega | exact Nat.le_refl _⟩, ⟨by (with_reducible repeat (first | apply Kd.R_alloc | apply Kd.R_drewN | apply Kd.R_drew)); exact Kd.R_mono (Kd.R_far (p := ⟨gb213, 1, none⟩) (Kd.R_far (p := ⟨gb213, 0, none⟩) (Kd.R_types HO201.out BK213.out (by decide)) (fun _ hk => hk.2) (.int .i64 t210)) (fun _ hk => hk.2) (.int .i64 t211)) (fun _ hk => hk.1.2)⟩, ⟨by (with_reducible repeat (first | refine blk_drewN ?_ _ | refine blk_drew ?_ | refine blk_alloc ?_ _)); refine blk_far ?_ NB175_213.out _; (with_reducible repeat (first | refine blk_drewN ?_ _ | refine blk_drew ?_ | refine blk_alloc ?_ _)); refine blk_far ?_ NB175_213.out _; (with_reducible repeat (first | refine blk_drewN ?_ _ | refine blk_drew ?_ | refine blk_alloc ?_ _)); exact BK175.out⟩, ⟨by (with_reducible repeat (first | refine blk_drewN ?_ _ | refine blk_drew ?_ | refine blk_alloc ?_ _)); refine blk_far ?_ NB192_213.out _; (with_reducible repeat (first | refine blk_drewN ?_ _ | refine blk_drew ?_ | refine blk_alloc ?_ _)); refine blk_far ?_ NB192_213.out _; (with_reducible repeat (first | refine blk_drewN ?_ _ | refine blk_drew ?_ | refine blk_alloc ?_ _)); exact BK192.out⟩, ⟨by (with_reducible repeat (first | refine blk_drewN ?_ _ | refine blk_drew ?_ | refine blk_alloc ?_ _)); refine blk_far ?_ NB205_213.out _; (with_reducible repeat (first | refine blk_drewN ?_ _ | refine blk_drew ?_ | refine blk_alloc ?_ _)); refine blk_far ?_ NB205_213.out _; (with_reducible repeat (first | refine blk_drewN ?_ _ | refine blk_drew ?_ | refine blk_alloc ?_ _)); exact BK205.out⟩, ⟨by (with_reducible repeat (first | refine blk_drewN ?_ _ | refine blk_drew ?_ | refine blk_alloc ?_ _)); refine blk_far ?_ NB209_213.out _; (with_reducible repeat (first | refine blk_drewN ?_ _ | refine blk_drew ?_ | refine blk_alloc ?_ _)); refine blk_far ?_ NB209_213.out _; (with_reducible repeat (first | refine blk_drewN ?_ _ | refine blk_drew ?_ | refine blk_alloc ?_ _)); exact BK209.out⟩, ⟨by (with_reducible repeat (first | refine blk_drewN ?_ _ | refine blk_drew ?_ | refine blk_alloc ?_ _)); refine blk_put (cs := #[.int .i64 t210, .int .i64 0]) ?_ 1 _ rfl; (with_reducible repeat (first | refine blk_drewN ?_ _ | refine blk_drew ?_ | refine blk_alloc ?_ _)); refine blk_put (cs := #[.int .i64 0, .int .i64 0]) ?_ 0 _ rfl; (with_reducible repeat (first | refine blk_drewN ?_ _ | refine blk_drew ?_ | refine blk_alloc ?_ _)); exact BK213.out⟩, ⟨by repeat (first | (with_reducible first | exact HB.out | apply below_alloc | apply pw_below_drewN | apply below_drew1 | refine below_set ?_ GE175.out | refine below_set ?_ GE192.out | refine below_set ?_ GE205.out | refine below_set ?_ GE209.out | refine below_set ?_ GE213.out) | exact HB.out)⟩⟩
                          · rw [if_neg c72] at H
                            have c72b0 : (t208 == 0) = false := beq_eq_false_iff_ne.mpr c72
                            have c72b1 : (t208 != 0) = true := bne_iff_ne.mpr c72
                            have H' := Aside0.mk H
                            clear H
                            go_wp2
                            go_meet
                            case rel => exact ⟨_, (true), (by first | rfl | (simp; done) | (simp [*]; done)), H', ⟨by have := HJ7.out; have := HK2.out; first | omega | exact Nat.le_refl _⟩, ⟨by (with_reducible repeat (first | apply Kd.R_alloc | apply Kd.R_drewN | apply Kd.R_drew)); exact Kd.R_mono (Kd.R_far (p := ⟨gb213, 1, none⟩) (Kd.R_far (p := ⟨gb213, 0, none⟩) (Kd.R_types HO201.out BK213.out (by decide)) (fun _ hk => hk.2) (.int .i64 t210)) (fun _ hk => hk.2) (.int .i64 t211)) (fun _ hk => hk.1.2)⟩, ⟨by (with_reducible repeat (first | refine blk_drewN ?_ _ | refine blk_drew ?_ | refine blk_alloc ?_ _)); refine blk_far ?_ NB175_213.out _; (with_reducible repeat (first | refine blk_drewN ?_ _ | refine blk_drew ?_ | refine blk_alloc ?_ _)); refine blk_far ?_ NB175_213.out _; (with_reducible repeat (first | refine blk_drewN ?_ _ | refine blk_drew ?_ | refine blk_alloc ?_ _)); exact BK175.out⟩, ⟨by (with_reducible repeat (first | refine blk_drewN ?_ _ | refine blk_drew ?_ | refine blk_alloc ?_ _)); refine blk_far ?_ NB192_213.out _; (with_reducible repeat (first | refine blk_drewN ?_ _ | refine blk_drew ?_ | refine blk_alloc ?_ _)); refine blk_far ?_ NB192_213.out _; (with_reducible repeat (first | refine blk_drewN ?_ _ | refine blk_drew ?_ | refine blk_alloc ?_ _)); exact BK192.out⟩, ⟨by (with_reducible repeat (first | refine blk_drewN ?_ _ | refine blk_drew ?_ | refine blk_alloc ?_ _)); refine blk_far ?_ NB205_213.out _; (with_reducible repeat (first | refine blk_drewN ?_ _ | refine blk_drew ?_ | refine blk_alloc ?_ _)); refine blk_far ?_ NB205_213.out _; (with_reducible repeat (first | refine blk_drewN ?_ _ | refine blk_drew ?_ | refine blk_alloc ?_ _)); exact BK205.out⟩, ⟨by (with_reducible repeat (first | refine blk_drewN ?_ _ | refine blk_drew ?_ | refine blk_alloc ?_ _)); refine blk_far ?_ NB209_213.out _; (with_reducible repeat (first | refine blk_drewN ?_ _ | refine blk_drew ?_ | refine blk_alloc ?_ _)); refine blk_far ?_ NB209_213.out _; (with_reducible repeat (first | refine blk_drewN ?_ _ | refine blk_drew ?_ | refine blk_alloc ?_ _)); exact BK209.out⟩, ⟨by (with_reducible repeat (first | refine blk_drewN ?_ _ | refine blk_drew ?_ | refine blk_alloc ?_ _)); refine blk_put (cs := #[.int .i64 t210, .int .i64 0]) ?_ 1 _ rfl; (with_reducible repeat (first | refine blk_drewN ?_ _ | refine blk_drew ?_ | refine blk_alloc ?_ _)); refine blk_put (cs := #[.int .i64 0, .int .i64 0]) ?_ 0 _ rfl; (with_reducible repeat (first | refine blk_drewN ?_ _ | refine blk_drew ?_ | refine blk_alloc ?_ _)); exact BK213.out⟩, ⟨by repeat (first | (with_reducible first | exact HB.out | apply below_alloc | apply pw_below_drewN | apply below_drew1 | refine below_set ?_ GE175.out | refine below_set ?_ GE192.out | refine below_set ?_ GE205.out | refine below_set ?_ GE209.out | refine below_set ?_ GE213.out) | exact HB.out)⟩⟩
                        · rw [if_neg c71] at H
                          have c71b0 : (t204 == 0) = false := beq_eq_false_iff_ne.mpr c71
                          have c71b1 : (t204 != 0) = true := bne_iff_ne.mpr c71
                          (first | rw [c71b0] | (simp only [i64_w, i32_w]; rw [c71b0]) | skip)
                          have H' := Aside0.mk H
                          clear H
                          go_wp2
                          go_meet
                          case rel => exact ⟨_, (true), (by first | rfl | (simp; done) | (simp [*]; done)), H', ⟨by have := HJ7.out; have := HK2.out; first | omega | exact Nat.le_refl _⟩, ⟨by (with_reducible repeat (first | apply Kd.R_alloc | apply Kd.R_drewN | apply Kd.R_drew)); exact Kd.R_mono (Kd.R_far (p := ⟨gb213, 1, none⟩) (Kd.R_far (p := ⟨gb213, 0, none⟩) (Kd.R_types HO201.out BK213.out (by decide)) (fun _ hk => hk.2) (.int .i64 t210)) (fun _ hk => hk.2) (.int .i64 t211)) (fun _ hk => hk.1.2)⟩, ⟨by (with_reducible repeat (first | refine blk_drewN ?_ _ | refine blk_drew ?_ | refine blk_alloc ?_ _)); refine blk_far ?_ NB175_213.out _; (with_reducible repeat (first | refine blk_drewN ?_ _ | refine blk_drew ?_ | refine blk_alloc ?_ _)); refine blk_far ?_ NB175_213.out _; (with_reducible repeat (first | refine blk_drewN ?_ _ | refine blk_drew ?_ | refine blk_alloc ?_ _)); exact BK175.out⟩, ⟨by (with_reducible repeat (first | refine blk_drewN ?_ _ | refine blk_drew ?_ | refine blk_alloc ?_ _)); refine blk_far ?_ NB192_213.out _; (with_reducible repeat (first | refine blk_drewN ?_ _ | refine blk_drew ?_ | refine blk_alloc ?_ _)); refine blk_far ?_ NB192_213.out _; (with_reducible repeat (first | refine blk_drewN ?_ _ | refine blk_drew ?_ | refine blk_alloc ?_ _)); exact BK192.out⟩, ⟨by (with_reducible repeat (first | refine blk_drewN ?_ _ | refine blk_drew ?_ | refine blk_alloc ?_ _)); refine blk_far ?_ NB205_213.out _; (with_reducible repeat (first | refine blk_drewN ?_ _ | refine blk_drew ?_ | refine blk_alloc ?_ _)); refine blk_far ?_ NB205_213.out _; (with_reducible repeat (first | refine blk_drewN ?_ _ | refine blk_drew ?_ | refine blk_alloc ?_ _)); exact BK205.out⟩, ⟨by (with_reducible repeat (first | refine blk_drewN ?_ _ | refine blk_drew ?_ | refine blk_alloc ?_ _)); refine blk_far ?_ NB209_213.out _; (with_reducible repeat (first | refine blk_drewN ?_ _ | refine blk_drew ?_ | refine blk_alloc ?_ _)); refine blk_far ?_ NB209_213.out _; (with_reducible repeat (first | refine blk_drewN ?_ _ | refine blk_drew ?_ | refine blk_alloc ?_ _)); exact BK209.out⟩, ⟨by (with_reducible repeat (first | refine blk_drewN ?_ _ | refine blk_drew ?_ | refine blk_alloc ?_ _)); refine blk_put (cs := #[.int .i64 t210, .int .i64 0]) ?_ 1 _ rfl; (with_reducible repeat (first | refine blk_drewN ?_ _ | refine blk_drew ?_ | refine blk_alloc ?_ _)); refine blk_put (cs := #[.int .i64 0, .int .i64 0]) ?_ 0 _ rfl; (with_reducible repeat (first | refine blk_drewN ?_ _ | refine blk_drew ?_ | refine blk_alloc ?_ _)); exact BK213.out⟩, ⟨by repeat (first | (with_reducible first | exact HB.out | apply below_alloc | apply pw_below_drewN | apply below_drew1 | refine below_set ?_ GE175.out | refine below_set ?_ GE192.out | refine below_set ?_ GE205.out | refine below_set ?_ GE209.out | refine below_set ?_ GE213.out) | exact HB.out)⟩⟩
                      case rest =>
                        clear HC41
                        try clear c1
                        try clear p1
                        try clear q1
                        try clear hx1
                        try clear c2
                        try clear p2
                        try clear c3
                        try clear c4
                        try clear c5
                        try clear c6
                        try clear p6
                        try clear c7
                        try clear c15
                        try clear c16
                        try clear c17
                        try clear c18
                        try clear c18b0
                        try clear c18b1
                        try clear p18
                        try clear q18
                        try clear hx18
                        try clear c19
                        try clear c19b0
                        try clear c19b1
                        try clear p19
                        try clear q19
                        try clear hx19
                        try clear c21
                        try clear c22
                        try clear c22b0
                        try clear c23
                        try clear c23b0
                        try clear c24
                        try clear c24b0
                        try clear c26
                        try clear c27
                        try clear c30
                        try clear c34
                        try clear c34b0
                        try clear c35
                        try clear c35b0
                        try clear c36
                        try clear c37
                        try clear c38
                        try clear c39
                        try clear c43
                        try clear c44
                        try clear c45
                        try clear c47
                        try clear c55
                        try clear c56
                        try clear c60
                        try clear c61
                        try clear c62
                        try clear p64
                        try clear c66
                        try clear c67
                        try clear c68
                        try clear c69
                        try clear c71
                        try clear c71b0
                        try clear c71b1
                        try clear c72
                        try clear c72b0
                        try clear c72b1
                        try clear hcz13_0
                        try clear hcz13_1
                        try clear hcz31_0
                        try clear hcz31_1
                        try clear hcz31_2
                        try clear hcz45_0
                        try clear hcz45_1
                        try clear hcz45_2
                        try clear hcz50_0
                        try clear hcz50_1
                        try clear hcz50_2
                        try clear hcz57_0
                        try clear hcz57_1
                        try clear hcz63_0
                        try clear hcz63_1
                        try clear hcz70_0
                        try clear hcz70_1
                        try clear hfz13_0
                        try clear hfz13_1
                        try clear hfz31_0
                        try clear hfz31_1
                        try clear hfz31_2
                        try clear hfz45_0
                        try clear hfz45_1
                        try clear hfz45_2
                        try clear hfz50_0
                        try clear hfz50_1
                        try clear hfz50_2
                        try clear hfz57_0
                        try clear hfz57_1
                        try clear hfz63_0
                        try clear hfz63_1
                        try clear hfz70_0
                        try clear hfz70_1
                        try clear hx182_0
                        try clear hx191_0
                        try clear p182
                        try clear p191
                        try clear p2
                        try clear q182
                        try clear q191
                        obtain ⟨kq, x118_40, rfl, HA, HJ40, HO_17, BK175, BK192, BK205, BK209, BK213, HB⟩ := hcut
                        cases kq with
                        | zero => exact absurd HA.out (by simp [selvedgelaw04_ShareHides.j2])
                        | succ kj40 =>
                          have H := HA.out
                          clear HA
                          simp only [selvedgelaw04_ShareHides.j2] at H
                          by_cases c73 : x118_40 = true
                          · subst c73
                            have H1 : (some false) = some r := by rw [if_pos rfl] at H; exact H
                            clear H
                            have H := H1
                            clear H1
                            obtain rfl := Option.some.inj H
                            go_wp2
                            go_ret
                            exact ⟨by first | rfl | (simp [errW_none, errW_some] <;> rfl) | (simp only [← hji33]; first | rfl | (simp [errW_none, errW_some] <;> rfl)) | (simp [*, errW_none, errW_some] <;> rfl), by repeat (first | (with_reducible first | exact HB.out | apply below_alloc | apply pw_below_drewN | apply below_drew1 | refine below_set ?_ GE175.out | refine below_set ?_ GE192.out | refine below_set ?_ GE205.out | refine below_set ?_ GE209.out | refine below_set ?_ GE213.out) | exact HB.out)⟩
                          · replace c73 := Bool.eq_false_iff.mpr c73
                            subst c73
                            have H1 : ((selvedgeref03_Sub.f a2_0 a2_1 t202 t203).bind fun bt214 => ((selvedgeref03_Mul.f bt214.1 bt214.2 t210 t211).bind fun bt216 => (if 0 ≤ (wrap64 ((l0.length : Int) - 1)) then (if (wrap64 ((l0.length : Int) - 1)) < (y199.length : Int) then ((share_Open.f (y199.set ((wrap64 ((l0.length : Int) - 1)) : Int).toNat (⟨(rd_T43 y199 (wrap64 ((l0.length : Int) - 1))).f0, (⟨bt216.1, bt216.2⟩ : S23)⟩ : S43))).bind fun bt219 => (if bt219.2.2 = 0 then (some (bt219.1 == a2_0 && (bt219.2.1 == a2_1))) else (some false))) else (none)) else (none)))) = some r := by rw [if_neg (show ¬ (false = true) by decide)] at H; exact H
                            clear H
                            have H := H1
                            clear H1
                            replace H := Option.bind_eq_some_iff.mp H
                            obtain ⟨⟨t214, t215⟩, A740, H⟩ := H
                            replace H : ((selvedgeref03_Mul.f t214 t215 t210 t211).bind fun bt216 => (if 0 ≤ (wrap64 ((l0.length : Int) - 1)) then (if (wrap64 ((l0.length : Int) - 1)) < (y199.length : Int) then ((share_Open.f (y199.set ((wrap64 ((l0.length : Int) - 1)) : Int).toNat (⟨(rd_T43 y199 (wrap64 ((l0.length : Int) - 1))).f0, (⟨bt216.1, bt216.2⟩ : S23)⟩ : S43))).bind fun bt219 => (if bt219.2.2 = 0 then (some (bt219.1 == a2_0 && (bt219.2.1 == a2_1))) else (some false))) else (none)) else (none))) = some r := H
                            have A74 := Aside0.mk A740
                            clear A740
                            replace H := Option.bind_eq_some_iff.mp H
                            obtain ⟨⟨t216, t217⟩, A750, H⟩ := H
                            replace H : (if 0 ≤ (wrap64 ((l0.length : Int) - 1)) then (if (wrap64 ((l0.length : Int) - 1)) < (y199.length : Int) then ((share_Open.f (y199.set ((wrap64 ((l0.length : Int) - 1)) : Int).toNat (⟨(rd_T43 y199 (wrap64 ((l0.length : Int) - 1))).f0, (⟨t216, t217⟩ : S23)⟩ : S43))).bind fun bt219 => (if bt219.2.2 = 0 then (some (bt219.1 == a2_0 && (bt219.2.1 == a2_1))) else (some false))) else (none)) else (none)) = some r := H
                            have A75 := Aside0.mk A750
                            clear A750
                            obtain ⟨ji76, hji76⟩ : ∃ j_ : Int, (wrap64 ((l0.length : Int) - 1)) = j_ := ⟨_, rfl⟩
                            replace H : (if 0 ≤ (ji76) then (if (ji76) < (y199.length : Int) then ((share_Open.f (y199.set ((ji76) : Int).toNat (⟨(rd_T43 y199 (ji76)).f0, (⟨t216, t217⟩ : S23)⟩ : S43))).bind fun bt219 => (if bt219.2.2 = 0 then (some (bt219.1 == a2_0 && (bt219.2.1 == a2_1))) else (some false))) else (none)) else (none)) = some r := by first | (rw [hji76] at H; exact H) | (simp only [hji76] at H ⊢; exact H)
                            (try rw [hji76] at A74)
                            (try rw [hji76] at A75)
                            have hji76w : (IntKind.i64.wrap ((l0.length : Int) - 1)) = ji76 := (i64_w _).trans hji76; clear hji33w
                            by_cases c77 : 0 ≤ (ji76)
                            · rw [if_pos c77] at H
                              have c77b0 : decide (0 ≤ (ji76)) = true := decide_eq_true c77
                              clear c77
                              by_cases c78 : (ji76) < (y199.length : Int)
                              · rw [if_pos c78] at H
                                have c78b0 : decide ((ji76) < (y199.length : Int)) = true := decide_eq_true c78
                                clear c78
                                obtain ⟨y218, hy218⟩ : ∃ y_ : List (S43), y_ = (y199.set ((ji76) : Int).toNat (⟨(rd_T43 y199 (ji76)).f0, (⟨t216, t217⟩ : S23)⟩ : S43)) := ⟨_, rfl⟩
                                replace H : ((share_Open.f y218).bind fun bt219 => (if bt219.2.2 = 0 then (some (bt219.1 == a2_0 && (bt219.2.1 == a2_1))) else (some false))) = some r := by first | (rw [hy218]; with_reducible exact H) | (have H2_ := (Option.bind_some _ _).symm.trans H; rw [hy218]; with_reducible exact H2_) | (have H2_ := (Option.bind_some _ _).symm.trans H; with_reducible exact H2_) | with_reducible exact H | (rw [hy218]; exact H) | exact H
                                have Ny218 := Aside0.mk hy218
                                clear hy218
                                replace H := Option.bind_eq_some_iff.mp H
                                obtain ⟨⟨t219, t220, t221⟩, A800, H⟩ := H
                                replace H : (if t221 = 0 then (some (t219 == a2_0 && (t220 == a2_1))) else (some false)) = some r := H
                                have A80 := Aside0.mk A800
                                clear A800
                                by_cases c81 : t221 = 0
                                · rw [if_pos c81] at H
                                  have c81b0 : (t221 == 0) = true := beq_iff_eq.mpr c81
                                  have c81b1 : (t221 != 0) = false := bne_eq_false_iff_eq.mpr c81
                                  clear c81
                                  obtain rfl := Option.some.inj H
                                  try go_wp2
                                  have n0_ := Aside0.mk (Kd.R_drew HO_17.out)
                                  have n1_ := Aside0.mk (blk_drew BK175.out)
                                  have n2_ := Aside0.mk (blk_drew BK192.out)
                                  have n3_ := Aside0.mk (blk_drew BK205.out)
                                  have n4_ := Aside0.mk (blk_drew BK209.out)
                                  have n5_ := Aside0.mk (blk_drew BK213.out)
                                  have n6_ := Aside0.mk (below_drew1 HB.out)
                                  clear HO_17
                                  clear BK175
                                  clear BK192
                                  clear BK205
                                  clear BK209
                                  clear BK213
                                  clear HB
                                  have HO_17 := n0_
                                  have BK175 := n1_
                                  have BK192 := n2_
                                  have BK205 := n3_
                                  have BK209 := n4_
                                  have BK213 := n5_
                                  have HB := n6_
                                  clear n0_ n1_ n2_ n3_ n4_ n5_ n6_
                                  refine start_ (n := 11) (S := fun w' => w'.cell? ⟨gb175, 0, none⟩ = some (.int .i64 a2_0) ∧ w'.cell? ⟨gb175, 1, none⟩ = some (.int .i64 a2_1) ∧ w'.cell? ⟨gb205, 0, none⟩ = some (.int .i64 t202) ∧ w'.cell? ⟨gb205, 1, none⟩ = some (.int .i64 t203) ∧ w'.cell? ⟨gb213, 0, none⟩ = some (.int .i64 t210) ∧ w'.cell? ⟨gb213, 1, none⟩ = some (.int .i64 t211)) (ds := [10]) #[false, false, false, false, false, false, false, false, false, false, false] (by kernel_rfl) rfl rfl ⟨(blk_cell BK175.out 0).trans rfl, (blk_cell BK175.out 1).trans rfl, (blk_cell BK205.out 0).trans rfl, (blk_cell BK205.out 1).trans rfl, (blk_cell BK213.out 0).trans rfl, (blk_cell BK213.out 1).trans rfl⟩ (fun hHeld => ?_); refine with_tabW selvedgelaw04_ShareHides.tab22 selvedgelaw04_ShareHides.bits22 (fun HT_ HW_ => ?_)
                                  generalize wc.drew = w82 at HO_17 BK175 BK192 BK205 BK209 BK213 HB hHeld ⊢
                                  refine pure_ (i := 0) (N := some 119) (v := ?_) (a' := ?_) #[true, false, false, false, false, false, false, false, false, false, false] rfl rfl (any_of HT_.out (by kernel_rfl)) (fun _ _ _ h => h) (Or.inl ⟨by rfl, ?_⟩) ?_ ?_
                                  rotate_left
                                  · intro w'
                                    go_simp
                                    with_reducible rfl
                                  rotate_left
                                  · simp only [Act.put, List.setIfInBounds_toArray, List.set_cons_zero, List.set_cons_succ, i64_w, i32_w]
                                    rfl
                                  refine pure_ (i := 1) (N := some 120) (v := ?_) (a' := ?_) #[true, true, false, false, false, false, false, false, false, false, false] rfl rfl (any_of HT_.out (by kernel_rfl)) (fun _ _ _ h => h) (Or.inl ⟨by rfl, ?_⟩) ?_ ?_
                                  rotate_left
                                  · intro w'
                                    go_simp
                                    with_reducible rfl
                                  rotate_left
                                  · simp only [Act.put, List.setIfInBounds_toArray, List.set_cons_zero, List.set_cons_succ, i64_w, i32_w]
                                    rfl
                                  refine pure_ (i := 2) (N := some 121) (v := ?_) (a' := ?_) #[true, true, true, false, false, false, false, false, false, false, false] rfl rfl (any_of HT_.out (by kernel_rfl)) (fun _ _ _ h => h) (Or.inl ⟨by rfl, ?_⟩) ?_ ?_
                                  rotate_left
                                  · intro w'
                                    go_simp
                                    with_reducible rfl
                                  rotate_left
                                  · simp only [Act.put, List.setIfInBounds_toArray, List.set_cons_zero, List.set_cons_succ, i64_w, i32_w]
                                    rfl
                                  refine take_ (i := 3) (N := some 122) (v := ?_) (a' := ?_) #[true, true, true, true, false, false, false, false, false, false, false] rfl rfl (take_ofW HT_.out HW_.out (by kernel_rfl)) (fun _ _ _ h => h) (Or.inl ⟨by rfl, ?_⟩) hHeld ?_ ?_
                                  rotate_left
                                  · rintro w' ⟨s0, s1, s2, s3, s4, s5⟩
                                    go_simp
                                    with_reducible rfl
                                  rotate_left
                                  · simp only [Act.put, List.setIfInBounds_toArray, List.set_cons_zero, List.set_cons_succ, i64_w, i32_w]
                                    rfl
                                  refine take_ (i := 4) (N := some 123) (v := ?_) (a' := ?_) #[true, true, true, true, true, false, false, false, false, false, false] rfl rfl (take_ofW HT_.out HW_.out (by kernel_rfl)) (fun _ _ _ h => h) (Or.inl ⟨by rfl, ?_⟩) hHeld ?_ ?_
                                  rotate_left
                                  · rintro w' ⟨s0, s1, s2, s3, s4, s5⟩
                                    go_simp
                                    with_reducible rfl
                                  rotate_left
                                  · simp only [Act.put, List.setIfInBounds_toArray, List.set_cons_zero, List.set_cons_succ, i64_w, i32_w]
                                    rfl
                                  refine take_ (i := 6) (N := some 125) (v := ?_) (a' := ?_) #[true, true, true, true, true, false, true, false, false, false, false] rfl rfl (take_ofW HT_.out HW_.out (by kernel_rfl)) (fun _ _ _ h => h) (Or.inl ⟨by rfl, ?_⟩) hHeld ?_ ?_
                                  rotate_left
                                  · rintro w' ⟨s0, s1, s2, s3, s4, s5⟩
                                    go_simp
                                    with_reducible rfl
                                  rotate_left
                                  · simp only [Act.put, List.setIfInBounds_toArray, List.set_cons_zero, List.set_cons_succ, i64_w, i32_w]
                                    rfl
                                  refine one_ (i := 5) (N := some 124) #[true, true, true, true, true, true, true, false, false, false, false] rfl rfl (one_of HT_.out (by kernel_rfl)) (by decide) (fun K hK => ?_)
                                  refine goes_ Try.func34 (by kernel_rfl) rfl #[.agg #[.int .i64 a2_0, .int .i64 a2_1], .agg #[.int .i64 t202, .int .i64 t203]] (by rfl) rfl rfl (by (try simp only [List.map_toArray, List.map_cons, List.map_nil]); first | done | rfl | (simp only [List.length_drop, List.length_take]; rfl)) ?_
                                  with_reducible refine (selvedgeref03_Sub.calls a2_0 a2_1 t202 t203 t214 t215 _ A74.out).mono ?_
                                  rintro e w83 ⟨rfl, hb⟩
                                  refine ⟨_, rfl, ?_⟩
                                  have n0_ := Aside0.mk (Kd.R_below (by (with_reducible repeat (first | apply Kd.R_alloc | apply Kd.R_drewN | apply Kd.R_drew)); exact HO_17.out) hb)
                                  have n1_ := Aside0.mk (blk_below (g := gb175) (o := .cells #[.int .i64 a2_0, .int .i64 a2_1] 23 (0, 0)) (by (with_reducible repeat (first | refine blk_drewN ?_ _ | refine blk_drew ?_ | refine blk_alloc ?_ _)); exact BK175.out) hb)
                                  have n2_ := Aside0.mk (blk_below (g := gb192) (o := .cells #[.int .i64 (rd t177 (ji33)), .int .i64 0, .int .i64 0] 43 (0, 0)) (by (with_reducible repeat (first | refine blk_drewN ?_ _ | refine blk_drew ?_ | refine blk_alloc ?_ _)); exact BK192.out) hb)
                                  have n3_ := Aside0.mk (blk_below (g := gb205) (o := .cells #[.int .i64 t202, .int .i64 t203] 23 (0, 0)) (by (with_reducible repeat (first | refine blk_drewN ?_ _ | refine blk_drew ?_ | refine blk_alloc ?_ _)); exact BK205.out) hb)
                                  have n4_ := Aside0.mk (blk_below (g := gb209) (o := .cells #[.int .i64 t206, .int .i64 t207] 23 (0, 0)) (by (with_reducible repeat (first | refine blk_drewN ?_ _ | refine blk_drew ?_ | refine blk_alloc ?_ _)); exact BK209.out) hb)
                                  have n5_ := Aside0.mk (blk_below (g := gb213) (o := .cells #[.int .i64 t210, .int .i64 t211] 23 (0, 0)) (by (with_reducible repeat (first | refine blk_drewN ?_ _ | refine blk_drew ?_ | refine blk_alloc ?_ _)); exact BK213.out) hb)
                                  have n6_ := Aside0.mk (below_step (by repeat (first | (with_reducible first | exact HB.out | apply below_alloc | apply pw_below_drewN | apply below_drew1 | refine below_set ?_ GE175.out | refine below_set ?_ GE192.out | refine below_set ?_ GE205.out | refine below_set ?_ GE209.out | refine below_set ?_ GE213.out) | exact HB.out)) hb)
                                  clear HO_17
                                  clear BK175
                                  clear BK192
                                  clear BK205
                                  clear BK209
                                  clear BK213
                                  clear HB
                                  have HO_17 := n0_
                                  have BK175 := n1_
                                  have BK192 := n2_
                                  have BK205 := n3_
                                  have BK209 := n4_
                                  have BK213 := n5_
                                  have HB := n6_
                                  clear n0_ n1_ n2_ n3_ n4_ n5_ n6_
                                  (try clear hb)
                                  (try clear hb2)
                                  (try clear hk)
                                  (try clear hi)
                                  refine hK.out _ _ ⟨(blk_cell BK175.out 0).trans rfl, (blk_cell BK175.out 1).trans rfl, (blk_cell BK205.out 0).trans rfl, (blk_cell BK205.out 1).trans rfl, (blk_cell BK213.out 0).trans rfl, (blk_cell BK213.out 1).trans rfl⟩ (fun hHeld => ?_)
                                  clear hK K
                                  refine norm_ (a' := ?_) ?_ ?_
                                  rotate_left
                                  · show Act.put _ (some 124) _ = _
                                    simp only [Act.put, List.setIfInBounds_toArray, List.set_cons_zero, List.set_cons_succ, i64_w, i32_w]
                                    rfl
                                  refine one_ (i := 7) (N := some 126) #[true, true, true, true, true, true, true, true, false, false, false] rfl rfl (one_of HT_.out (by kernel_rfl)) (by decide) (fun K hK => ?_)
                                  refine goes_ Try.func35 (by kernel_rfl) rfl #[.agg #[.int .i64 t214, .int .i64 t215], .agg #[.int .i64 t210, .int .i64 t211]] (by rfl) rfl rfl (by (try simp only [List.map_toArray, List.map_cons, List.map_nil]); first | done | rfl | (simp only [List.length_drop, List.length_take]; rfl)) ?_
                                  with_reducible refine (selvedgeref03_Mul.calls t214 t215 t210 t211 t216 t217 _ A75.out).mono ?_
                                  rintro e w84 ⟨rfl, hb⟩
                                  refine ⟨_, rfl, ?_⟩
                                  have n0_ := Aside0.mk (Kd.R_below (by (with_reducible repeat (first | apply Kd.R_alloc | apply Kd.R_drewN | apply Kd.R_drew)); exact HO_17.out) hb)
                                  have n1_ := Aside0.mk (blk_below (g := gb175) (o := .cells #[.int .i64 a2_0, .int .i64 a2_1] 23 (0, 0)) (by (with_reducible repeat (first | refine blk_drewN ?_ _ | refine blk_drew ?_ | refine blk_alloc ?_ _)); exact BK175.out) hb)
                                  have n2_ := Aside0.mk (blk_below (g := gb192) (o := .cells #[.int .i64 (rd t177 (ji33)), .int .i64 0, .int .i64 0] 43 (0, 0)) (by (with_reducible repeat (first | refine blk_drewN ?_ _ | refine blk_drew ?_ | refine blk_alloc ?_ _)); exact BK192.out) hb)
                                  have n3_ := Aside0.mk (blk_below (g := gb205) (o := .cells #[.int .i64 t202, .int .i64 t203] 23 (0, 0)) (by (with_reducible repeat (first | refine blk_drewN ?_ _ | refine blk_drew ?_ | refine blk_alloc ?_ _)); exact BK205.out) hb)
                                  have n4_ := Aside0.mk (blk_below (g := gb209) (o := .cells #[.int .i64 t206, .int .i64 t207] 23 (0, 0)) (by (with_reducible repeat (first | refine blk_drewN ?_ _ | refine blk_drew ?_ | refine blk_alloc ?_ _)); exact BK209.out) hb)
                                  have n5_ := Aside0.mk (blk_below (g := gb213) (o := .cells #[.int .i64 t210, .int .i64 t211] 23 (0, 0)) (by (with_reducible repeat (first | refine blk_drewN ?_ _ | refine blk_drew ?_ | refine blk_alloc ?_ _)); exact BK213.out) hb)
                                  have n6_ := Aside0.mk (below_step (by repeat (first | (with_reducible first | exact HB.out | apply below_alloc | apply pw_below_drewN | apply below_drew1 | refine below_set ?_ GE175.out | refine below_set ?_ GE192.out | refine below_set ?_ GE205.out | refine below_set ?_ GE209.out | refine below_set ?_ GE213.out) | exact HB.out)) hb)
                                  clear HO_17
                                  clear BK175
                                  clear BK192
                                  clear BK205
                                  clear BK209
                                  clear BK213
                                  clear HB
                                  have HO_17 := n0_
                                  have BK175 := n1_
                                  have BK192 := n2_
                                  have BK205 := n3_
                                  have BK209 := n4_
                                  have BK213 := n5_
                                  have HB := n6_
                                  clear n0_ n1_ n2_ n3_ n4_ n5_ n6_
                                  (try clear hb)
                                  (try clear hb2)
                                  (try clear hk)
                                  (try clear hi)
                                  have p79 : 0 ≤ ((ji76) : Int) := of_decide_eq_true (by first | (with_reducible assumption) | assumption)
                                  have q79 : ((ji76) : Int) < ((y199.length : Int) : Int) := of_decide_eq_true (by first | (with_reducible assumption) | assumption)
                                  obtain ⟨go79, co79, eo79, gb79, gl79, cl79, HG79⟩ := Kd.R_form HO_17.out (by omega)
                                  (first | cases eo79 | (injection eo79 with ea_ en_ ec_; (first | subst ea_ | (injection ea_ with ea_; subst ea_)); subst ec_; clear en_))
                                  have GB79 := Aside0.mk gb79
                                  have GG79 := Aside0.mk HG79
                                  clear gb79 gl79 HG79
                                  obtain ⟨ce79, hcl79, hM79, hcc79, hfr79⟩ := Kd.R_elem HO_17.out z43 ((ji76) : Int) p79 q79
                                  obtain rfl := k43_openM hM79
                                  have hx79_0 : World.cell? _ ⟨go79, ((ji76) : Int).toNat * 3, none⟩ = some (.int .i64 ((rd_T43 y199 (ji76)).f0)) := hcc79 0 _ rfl
                                  have hx79_1 : World.cell? _ ⟨go79, ((ji76) : Int).toNat * 3 + 1, none⟩ = some (.int .i64 ((rd_T43 y199 (ji76)).f1.f0)) := hcc79 1 _ rfl
                                  have hx79_2 : World.cell? _ ⟨go79, ((ji76) : Int).toNat * 3 + 2, none⟩ = some (.int .i64 ((rd_T43 y199 (ji76)).f1.f1)) := hcc79 2 _ rfl
                                  have hf79_0 : World.frozen? _ ⟨go79, ((ji76) : Int).toNat * 3, none⟩ = false := hfr79 0
                                  have hf79_1 : World.frozen? _ ⟨go79, ((ji76) : Int).toNat * 3 + 1, none⟩ = false := hfr79 1
                                  have hf79_2 : World.frozen? _ ⟨go79, ((ji76) : Int).toNat * 3 + 2, none⟩ = false := hfr79 2
                                  clear hcl79 hcc79 hfr79 hM79
                                  replace p79 := eq_true p79
                                  replace q79 := eq_true q79
                                  obtain ⟨ce85, hcl85, hM85, hcc85, hfr85⟩ := Kd.R_elem HO_17.out z43 ((ji76) : Int) (of_decide_eq_true (by first | (with_reducible assumption) | assumption)) (by have h_ : ((ji76) : Int) < ((y199.length : Int) : Int) := of_decide_eq_true (by first | (with_reducible assumption) | assumption); first | exact h_ | (have e_ := (Kd.R_reads' HO_17.out).1; omega) | simpa using h_)
                                  obtain rfl := k43_openM hM85
                                  have HP85 := (Kd.R_seg HO_17.out ((ji76) : Int) (of_decide_eq_true (by first | (with_reducible assumption) | assumption)) (by have h_ : ((ji76) : Int) < ((y199.length : Int) : Int) := of_decide_eq_true (by first | (with_reducible assumption) | assumption); first | exact h_ | (have e_ := (Kd.R_reads' HO_17.out).1; omega) | simpa using h_) (seg := [.int .i64 t216, .int .i64 t217]) (j := 1) hcl85 hcc85 (show 3 ≤ 3 from by decide) (x' := (⟨(rd_T43 y199 (ji76)).f0, (⟨t216, t217⟩ : S23)⟩ : S43)) (k43_mkM _ _ _ (⟨(rd_T43 y199 (ji76)).f0, (⟨t216, t217⟩ : S23)⟩ : S43) ) (fun _ hk => hk)).1
                                  rw [← Ny218.out] at HP85
                                  have HQ85 := Aside0.mk HP85
                                  clear hcl85 hcc85 hfr85 hM85 HP85
                                  refine hK.out _ _ ⟨(blk_cell BK175.out 0).trans rfl, (blk_cell BK175.out 1).trans rfl, (blk_cell BK205.out 0).trans rfl, (blk_cell BK205.out 1).trans rfl, (blk_cell BK213.out 0).trans rfl, (blk_cell BK213.out 1).trans rfl⟩ (fun hHeld => ?_)
                                  clear hK K
                                  refine norm_ (a' := ?_) ?_ ?_
                                  rotate_left
                                  · show Act.put _ (some 126) _ = _
                                    simp only [Act.put, List.setIfInBounds_toArray, List.set_cons_zero, List.set_cons_succ, i64_w, i32_w]
                                    rfl
                                  refine pure_ (i := 8) (N := some 127) (v := ?_) (a' := ?_) #[true, true, true, true, true, true, true, true, true, false, false] rfl rfl (any_of HT_.out (by kernel_rfl)) (fun _ _ _ h => h) (Or.inl ⟨by rfl, ?_⟩) ?_ ?_
                                  rotate_left
                                  · intro w'
                                    go_simp
                                    with_reducible rfl
                                  rotate_left
                                  · simp only [Act.put, List.setIfInBounds_toArray, List.set_cons_zero, List.set_cons_succ, i64_w, i32_w]
                                    rfl
                                  refine pure_ (i := 9) (N := some 128) (v := ?_) (a' := ?_) #[true, true, true, true, true, true, true, true, true, true, false] rfl rfl (any_of HT_.out (by kernel_rfl)) (fun _ _ _ h => h) (Or.inl ⟨by rfl, ?_⟩) ?_ ?_
                                  rotate_left
                                  · intro w'
                                    go_simp
                                    with_reducible rfl
                                  rotate_left
                                  · simp only [Act.put, List.setIfInBounds_toArray, List.set_cons_zero, List.set_cons_succ, i64_w, i32_w]
                                    rfl
                                  refine last_ (i := 10) (N := none) #[true, true, true, true, true, true, true, true, true, true, true] rfl rfl (one_of HT_.out (by kernel_rfl)) (by decide) (fun K hK => ?_)
                                  refine skip_ (w1 := ?_) (by rfl) rfl ?_ ?_
                                  rotate_left
                                  · go_simp
                                    rfl
                                  refine hK.out _ _ ?_
                                  clear hK K
                                  refine done_ (done_of HT_.out (by kernel_rfl)) ?_
                                  have n0_ : Aside0 (Kd.R k43 43 ((w84.setCell ⟨go79, ((ji76) : Int).toNat * 3 + 1, none⟩ (.int .i64 t216)).setCell ⟨go79, ((ji76) : Int).toNat * 3 + 2, none⟩ (.int .i64 t217)) w.heap.size (fun k_ => k_ ≠ gb192) (.slice (some ⟨go79, 0, none⟩) y199.length co52) y218) := ⟨by (with_reducible repeat (first | apply Kd.R_alloc | apply Kd.R_drewN | apply Kd.R_drew)); exact HQ85.out⟩
                                  have n1_ : Aside0 (((w84.setCell ⟨go79, ((ji76) : Int).toNat * 3 + 1, none⟩ (.int .i64 t216)).setCell ⟨go79, ((ji76) : Int).toNat * 3 + 2, none⟩ (.int .i64 t217)).heap[gb175]? = some (.cells #[.int .i64 a2_0, .int .i64 a2_1] 23 (0, 0))) := ⟨by (with_reducible repeat (first | refine blk_drewN ?_ _ | refine blk_drew ?_ | refine blk_alloc ?_ _)); refine blk_far ?_ (by have h_ := Kd.R_ne HO_17.out BK175.out (by decide); intro e_; exact h_ (by rw [e_]; rfl)) _; (with_reducible repeat (first | refine blk_drewN ?_ _ | refine blk_drew ?_ | refine blk_alloc ?_ _)); refine blk_far ?_ (by have h_ := Kd.R_ne HO_17.out BK175.out (by decide); intro e_; exact h_ (by rw [e_]; rfl)) _; (with_reducible repeat (first | refine blk_drewN ?_ _ | refine blk_drew ?_ | refine blk_alloc ?_ _)); exact BK175.out⟩
                                  have n2_ : Aside0 (((w84.setCell ⟨go79, ((ji76) : Int).toNat * 3 + 1, none⟩ (.int .i64 t216)).setCell ⟨go79, ((ji76) : Int).toNat * 3 + 2, none⟩ (.int .i64 t217)).heap[gb192]? = some (.cells #[.int .i64 (rd t177 (ji33)), .int .i64 0, .int .i64 0] 43 (0, 0))) := ⟨by (with_reducible repeat (first | refine blk_drewN ?_ _ | refine blk_drew ?_ | refine blk_alloc ?_ _)); refine blk_far ?_ (by have h_ := Kd.R_away HO_17.out (fun _ hk => hk); intro e_; exact h_ (by rw [e_]; rfl)) _; (with_reducible repeat (first | refine blk_drewN ?_ _ | refine blk_drew ?_ | refine blk_alloc ?_ _)); refine blk_far ?_ (by have h_ := Kd.R_away HO_17.out (fun _ hk => hk); intro e_; exact h_ (by rw [e_]; rfl)) _; (with_reducible repeat (first | refine blk_drewN ?_ _ | refine blk_drew ?_ | refine blk_alloc ?_ _)); exact BK192.out⟩
                                  have n3_ : Aside0 (((w84.setCell ⟨go79, ((ji76) : Int).toNat * 3 + 1, none⟩ (.int .i64 t216)).setCell ⟨go79, ((ji76) : Int).toNat * 3 + 2, none⟩ (.int .i64 t217)).heap[gb205]? = some (.cells #[.int .i64 t202, .int .i64 t203] 23 (0, 0))) := ⟨by (with_reducible repeat (first | refine blk_drewN ?_ _ | refine blk_drew ?_ | refine blk_alloc ?_ _)); refine blk_far ?_ (by have h_ := Kd.R_ne HO_17.out BK205.out (by decide); intro e_; exact h_ (by rw [e_]; rfl)) _; (with_reducible repeat (first | refine blk_drewN ?_ _ | refine blk_drew ?_ | refine blk_alloc ?_ _)); refine blk_far ?_ (by have h_ := Kd.R_ne HO_17.out BK205.out (by decide); intro e_; exact h_ (by rw [e_]; rfl)) _; (with_reducible repeat (first | refine blk_drewN ?_ _ | refine blk_drew ?_ | refine blk_alloc ?_ _)); exact BK205.out⟩
                                  have n4_ : Aside0 (((w84.setCell ⟨go79, ((ji76) : Int).toNat * 3 + 1, none⟩ (.int .i64 t216)).setCell ⟨go79, ((ji76) : Int).toNat * 3 + 2, none⟩ (.int .i64 t217)).heap[gb209]? = some (.cells #[.int .i64 t206, .int .i64 t207] 23 (0, 0))) := ⟨by (with_reducible repeat (first | refine blk_drewN ?_ _ | refine blk_drew ?_ | refine blk_alloc ?_ _)); refine blk_far ?_ (by have h_ := Kd.R_ne HO_17.out BK209.out (by decide); intro e_; exact h_ (by rw [e_]; rfl)) _; (with_reducible repeat (first | refine blk_drewN ?_ _ | refine blk_drew ?_ | refine blk_alloc ?_ _)); refine blk_far ?_ (by have h_ := Kd.R_ne HO_17.out BK209.out (by decide); intro e_; exact h_ (by rw [e_]; rfl)) _; (with_reducible repeat (first | refine blk_drewN ?_ _ | refine blk_drew ?_ | refine blk_alloc ?_ _)); exact BK209.out⟩
                                  have n5_ : Aside0 (((w84.setCell ⟨go79, ((ji76) : Int).toNat * 3 + 1, none⟩ (.int .i64 t216)).setCell ⟨go79, ((ji76) : Int).toNat * 3 + 2, none⟩ (.int .i64 t217)).heap[gb213]? = some (.cells #[.int .i64 t210, .int .i64 t211] 23 (0, 0))) := ⟨by (with_reducible repeat (first | refine blk_drewN ?_ _ | refine blk_drew ?_ | refine blk_alloc ?_ _)); refine blk_far ?_ (by have h_ := Kd.R_ne HO_17.out BK213.out (by decide); intro e_; exact h_ (by rw [e_]; rfl)) _; (with_reducible repeat (first | refine blk_drewN ?_ _ | refine blk_drew ?_ | refine blk_alloc ?_ _)); refine blk_far ?_ (by have h_ := Kd.R_ne HO_17.out BK213.out (by decide); intro e_; exact h_ (by rw [e_]; rfl)) _; (with_reducible repeat (first | refine blk_drewN ?_ _ | refine blk_drew ?_ | refine blk_alloc ?_ _)); exact BK213.out⟩
                                  have n6_ : Aside0 (Below w.heap.size w ((w84.setCell ⟨go79, ((ji76) : Int).toNat * 3 + 1, none⟩ (.int .i64 t216)).setCell ⟨go79, ((ji76) : Int).toNat * 3 + 2, none⟩ (.int .i64 t217))) := ⟨by repeat (first | (with_reducible first | exact HB.out | apply below_alloc | apply pw_below_drewN | apply below_drew1 | refine below_set ?_ GB79.out | refine below_set ?_ GB79.out | refine below_set ?_ GE175.out | refine below_set ?_ GE192.out | refine below_set ?_ GE205.out | refine below_set ?_ GE209.out | refine below_set ?_ GE213.out) | exact HB.out)⟩
                                  (try clear HO_17)
                                  (try clear BK175)
                                  (try clear BK192)
                                  (try clear BK205)
                                  (try clear BK209)
                                  (try clear BK213)
                                  (try clear HB)
                                  generalize ((w84.setCell ⟨go79, ((ji76) : Int).toNat * 3 + 1, none⟩ (.int .i64 t216)).setCell ⟨go79, ((ji76) : Int).toNat * 3 + 2, none⟩ (.int .i64 t217)) = w86 at n0_ n1_ n2_ n3_ n4_ n5_ n6_ ⊢
                                  have HO_17 := n0_
                                  have BK175 := n1_
                                  have BK192 := n2_
                                  have BK205 := n3_
                                  have BK209 := n4_
                                  have BK213 := n5_
                                  have HB := n6_
                                  clear n0_ n1_ n2_ n3_ n4_ n5_ n6_
                                  try go_wp2_with (first | ((with_reducible refine gate_callee (f := 45) rfl ?_); refine goesL_ (some 131) rfl rfl Try.func45 (by kernel_rfl) rfl #[.slice (some ⟨go79, 0, none⟩) y218.length co52] rfl (by (try simp only [List.map_toArray, List.map_cons, List.map_nil]); first | done | (rw [show y218.length = y199.length from (Kd.R_reads' HO_17.out).1.symm] <;> rfl) | rfl | (simp only [List.length_drop, List.length_take]; rfl)) ?_; (with_reducible refine (share_Open.calls _ _ y218 t219 t220 t221 _ ?side1 ?side2 A80.out).mono ?_); (case side1 => repeat (first | exact (Kd.R_reads' HO_17.out).2.2 | (with_reducible refine Kd.C_alloc ?_ _) | (with_reducible refine Kd.C_drewN ?_ _) | (with_reducible refine Kd.C_drew ?_))); (case side2 => rw [show y218.length = y199.length from (Kd.R_reads' HO_17.out).1.symm]; exact (Kd.R_reads' HO_17.out).2.1); rintro e w87 ⟨rfl, hb⟩; refine ⟨_, rfl, ?_⟩; have n0_ := Aside0.mk (Kd.R_below (by (with_reducible repeat (first | apply Kd.R_alloc | apply Kd.R_drewN | apply Kd.R_drew)); exact HO_17.out) hb); have n1_ := Aside0.mk (blk_below (g := gb175) (o := .cells #[.int .i64 a2_0, .int .i64 a2_1] 23 (0, 0)) (by (with_reducible repeat (first | refine blk_drewN ?_ _ | refine blk_drew ?_ | refine blk_alloc ?_ _)); exact BK175.out) hb); have n2_ := Aside0.mk (blk_below (g := gb192) (o := .cells #[.int .i64 (rd t177 (ji33)), .int .i64 0, .int .i64 0] 43 (0, 0)) (by (with_reducible repeat (first | refine blk_drewN ?_ _ | refine blk_drew ?_ | refine blk_alloc ?_ _)); exact BK192.out) hb); have n3_ := Aside0.mk (blk_below (g := gb205) (o := .cells #[.int .i64 t202, .int .i64 t203] 23 (0, 0)) (by (with_reducible repeat (first | refine blk_drewN ?_ _ | refine blk_drew ?_ | refine blk_alloc ?_ _)); exact BK205.out) hb); have n4_ := Aside0.mk (blk_below (g := gb209) (o := .cells #[.int .i64 t206, .int .i64 t207] 23 (0, 0)) (by (with_reducible repeat (first | refine blk_drewN ?_ _ | refine blk_drew ?_ | refine blk_alloc ?_ _)); exact BK209.out) hb); have n5_ := Aside0.mk (blk_below (g := gb213) (o := .cells #[.int .i64 t210, .int .i64 t211] 23 (0, 0)) (by (with_reducible repeat (first | refine blk_drewN ?_ _ | refine blk_drew ?_ | refine blk_alloc ?_ _)); exact BK213.out) hb); have n6_ := Aside0.mk (below_step (by repeat (first | (with_reducible first | exact HB.out | apply below_alloc | apply pw_below_drewN | apply below_drew1 | refine below_set ?_ GE175.out | refine below_set ?_ GE192.out | refine below_set ?_ GE205.out | refine below_set ?_ GE209.out | refine below_set ?_ GE213.out) | exact HB.out)) hb); clear HO_17; clear BK175; clear BK192; clear BK205; clear BK209; clear BK213; clear HB; have HO_17 := n0_; have BK175 := n1_; have BK192 := n2_; have BK205 := n3_; have BK209 := n4_; have BK213 := n5_; have HB := n6_; clear n0_ n1_ n2_ n3_ n4_ n5_ n6_; (try clear hb); (try clear hb2); (try clear hk); (try clear hi)) | ((with_reducible refine gate_dst (N := 24) rfl ?_); (try (refine gate_guard (by rfl) ?_; dsimp only)); refine box_event ?hg (N := 24) ?hd (cs := #[.int .i64 0, .int .i64 0]) (t := 23) ?hr ?_; (case hd => rfl); (case hg => rfl); (case hr => first | (go_simp; done) | (go_simp; rfl)); intro gb222 hg w88 hbox hb; have n0_ := Aside0.mk (Kd.R_below (by (with_reducible repeat (first | apply Kd.R_alloc | apply Kd.R_drewN | apply Kd.R_drew)); exact HO_17.out) hb); have n1_ := Aside0.mk (blk_below (g := gb175) (o := .cells #[.int .i64 a2_0, .int .i64 a2_1] 23 (0, 0)) (by (with_reducible repeat (first | refine blk_drewN ?_ _ | refine blk_drew ?_ | refine blk_alloc ?_ _)); exact BK175.out) hb); have n2_ := Aside0.mk (blk_below (g := gb192) (o := .cells #[.int .i64 (rd t177 (ji33)), .int .i64 0, .int .i64 0] 43 (0, 0)) (by (with_reducible repeat (first | refine blk_drewN ?_ _ | refine blk_drew ?_ | refine blk_alloc ?_ _)); exact BK192.out) hb); have n3_ := Aside0.mk (blk_below (g := gb205) (o := .cells #[.int .i64 t202, .int .i64 t203] 23 (0, 0)) (by (with_reducible repeat (first | refine blk_drewN ?_ _ | refine blk_drew ?_ | refine blk_alloc ?_ _)); exact BK205.out) hb); have n4_ := Aside0.mk (blk_below (g := gb209) (o := .cells #[.int .i64 t206, .int .i64 t207] 23 (0, 0)) (by (with_reducible repeat (first | refine blk_drewN ?_ _ | refine blk_drew ?_ | refine blk_alloc ?_ _)); exact BK209.out) hb); have n5_ := Aside0.mk (blk_below (g := gb213) (o := .cells #[.int .i64 t210, .int .i64 t211] 23 (0, 0)) (by (with_reducible repeat (first | refine blk_drewN ?_ _ | refine blk_drew ?_ | refine blk_alloc ?_ _)); exact BK213.out) hb); have n6_ := Aside0.mk (below_step (by repeat (first | (with_reducible first | exact HB.out | apply below_alloc | apply pw_below_drewN | apply below_drew1 | refine below_set ?_ GE175.out | refine below_set ?_ GE192.out | refine below_set ?_ GE205.out | refine below_set ?_ GE209.out | refine below_set ?_ GE213.out) | exact HB.out)) hb); have n7_ := Aside0.mk (hbox); have n8_ := Aside0.mk ((by rw [hg]; exact (below_size (by repeat (first | (with_reducible first | exact HB.out | apply below_alloc | apply pw_below_drewN | apply below_drew1 | refine below_set ?_ GE175.out | refine below_set ?_ GE192.out | refine below_set ?_ GE205.out | refine below_set ?_ GE209.out | refine below_set ?_ GE213.out) | exact HB.out))) : w.heap.size ≤ gb222)); have n9_ := Aside0.mk ((by rw [hg]; exact (below_size (by repeat (first | (with_reducible first | exact HB.out | apply below_alloc | apply pw_below_drewN | apply below_drew1 | refine below_set ?_ GE175.out | refine below_set ?_ GE192.out | refine below_set ?_ GE205.out | refine below_set ?_ GE209.out | refine below_set ?_ GE213.out) | exact HB.out))) : w.heap.size ≤ gb222)); have n10_ := Aside0.mk ((by rw [hg]; exact Nat.ne_of_lt (blk_lt (g := gb175) (o := .cells #[.int .i64 a2_0, .int .i64 a2_1] 23 (0, 0)) (by (with_reducible repeat (first | refine blk_drewN ?_ _ | refine blk_drew ?_ | refine blk_alloc ?_ _)); exact BK175.out)) : gb175 ≠ gb222)); have n11_ := Aside0.mk ((by rw [hg]; exact Nat.ne_of_gt (blk_lt (g := gb175) (o := .cells #[.int .i64 a2_0, .int .i64 a2_1] 23 (0, 0)) (by (with_reducible repeat (first | refine blk_drewN ?_ _ | refine blk_drew ?_ | refine blk_alloc ?_ _)); exact BK175.out)) : gb222 ≠ gb175)); have n12_ := Aside0.mk ((by rw [hg]; exact Nat.ne_of_lt (blk_lt (g := gb192) (o := .cells #[.int .i64 (rd t177 (ji33)), .int .i64 0, .int .i64 0] 43 (0, 0)) (by (with_reducible repeat (first | refine blk_drewN ?_ _ | refine blk_drew ?_ | refine blk_alloc ?_ _)); exact BK192.out)) : gb192 ≠ gb222)); have n13_ := Aside0.mk ((by rw [hg]; exact Nat.ne_of_gt (blk_lt (g := gb192) (o := .cells #[.int .i64 (rd t177 (ji33)), .int .i64 0, .int .i64 0] 43 (0, 0)) (by (with_reducible repeat (first | refine blk_drewN ?_ _ | refine blk_drew ?_ | refine blk_alloc ?_ _)); exact BK192.out)) : gb222 ≠ gb192)); have n14_ := Aside0.mk ((by rw [hg]; exact Nat.ne_of_lt (blk_lt (g := gb205) (o := .cells #[.int .i64 t202, .int .i64 t203] 23 (0, 0)) (by (with_reducible repeat (first | refine blk_drewN ?_ _ | refine blk_drew ?_ | refine blk_alloc ?_ _)); exact BK205.out)) : gb205 ≠ gb222)); have n15_ := Aside0.mk ((by rw [hg]; exact Nat.ne_of_gt (blk_lt (g := gb205) (o := .cells #[.int .i64 t202, .int .i64 t203] 23 (0, 0)) (by (with_reducible repeat (first | refine blk_drewN ?_ _ | refine blk_drew ?_ | refine blk_alloc ?_ _)); exact BK205.out)) : gb222 ≠ gb205)); have n16_ := Aside0.mk ((by rw [hg]; exact Nat.ne_of_lt (blk_lt (g := gb209) (o := .cells #[.int .i64 t206, .int .i64 t207] 23 (0, 0)) (by (with_reducible repeat (first | refine blk_drewN ?_ _ | refine blk_drew ?_ | refine blk_alloc ?_ _)); exact BK209.out)) : gb209 ≠ gb222)); have n17_ := Aside0.mk ((by rw [hg]; exact Nat.ne_of_gt (blk_lt (g := gb209) (o := .cells #[.int .i64 t206, .int .i64 t207] 23 (0, 0)) (by (with_reducible repeat (first | refine blk_drewN ?_ _ | refine blk_drew ?_ | refine blk_alloc ?_ _)); exact BK209.out)) : gb222 ≠ gb209)); have n18_ := Aside0.mk ((by rw [hg]; exact Nat.ne_of_lt (blk_lt (g := gb213) (o := .cells #[.int .i64 t210, .int .i64 t211] 23 (0, 0)) (by (with_reducible repeat (first | refine blk_drewN ?_ _ | refine blk_drew ?_ | refine blk_alloc ?_ _)); exact BK213.out)) : gb213 ≠ gb222)); have n19_ := Aside0.mk ((by rw [hg]; exact Nat.ne_of_gt (blk_lt (g := gb213) (o := .cells #[.int .i64 t210, .int .i64 t211] 23 (0, 0)) (by (with_reducible repeat (first | refine blk_drewN ?_ _ | refine blk_drew ?_ | refine blk_alloc ?_ _)); exact BK213.out)) : gb222 ≠ gb213)); clear HO_17; clear BK175; clear BK192; clear BK205; clear BK209; clear BK213; clear HB; have HO_17 := n0_; have BK175 := n1_; have BK192 := n2_; have BK205 := n3_; have BK209 := n4_; have BK213 := n5_; have HB := n6_; have BK222 := n7_; have GW222 := n8_; have GE222 := n9_; have NB175_222 := n10_; have NB222_175 := n11_; have NB192_222 := n12_; have NB222_192 := n13_; have NB205_222 := n14_; have NB222_205 := n15_; have NB209_222 := n16_; have NB222_209 := n17_; have NB213_222 := n18_; have NB222_213 := n19_; clear n0_ n1_ n2_ n3_ n4_ n5_ n6_ n7_ n8_ n9_ n10_ n11_ n12_ n13_ n14_ n15_ n16_ n17_ n18_ n19_; clear hb hbox hg; have hnb89 := NB222_175.out; have hnc89 := NB175_222.out; have hnb90 := NB222_192.out; have hnc90 := NB192_222.out; have hnb91 := NB222_205.out; have hnc91 := NB205_222.out; have hnb92 := NB222_209.out; have hnc92 := NB209_222.out; have hnb93 := NB222_213.out; have hnc93 := NB213_222.out; have hcz94_0 : w88.cell? ⟨gb222, 0, none⟩ = some (.int .i64 0) := (blk_cell BK222.out 0).trans rfl; have hcz94_1 : w88.cell? ⟨gb222, 1, none⟩ = some (.int .i64 0) := (blk_cell BK222.out 1).trans rfl; have hfz94_0 := blk_frozen BK222.out 0; have hfz94_1 := blk_frozen BK222.out 1; have hnb95 := NB175_192.out; have hnc95 := NB192_175.out; have hnb96 := NB175_205.out; have hnc96 := NB205_175.out; have hnb97 := NB175_209.out; have hnc97 := NB209_175.out; have hnb98 := NB175_213.out; have hnc98 := NB213_175.out; have hcz99_0 : w88.cell? ⟨gb175, 0, none⟩ = some (.int .i64 a2_0) := (blk_cell BK175.out 0).trans rfl; have hcz99_1 : w88.cell? ⟨gb175, 1, none⟩ = some (.int .i64 a2_1) := (blk_cell BK175.out 1).trans rfl; have hfz99_0 := blk_frozen BK175.out 0; have hfz99_1 := blk_frozen BK175.out 1))
                                  go_ret
                                  exact ⟨by first | rfl | (simp [errW_none, errW_some] <;> rfl) | (simp only [← hji33, ← hji76]; first | rfl | (simp [errW_none, errW_some] <;> rfl)) | (simp [*, errW_none, errW_some] <;> rfl), by repeat (first | (with_reducible first | exact HB.out | apply below_alloc | apply pw_below_drewN | apply below_drew1 | refine below_set ?_ GE175.out | refine below_set ?_ GE192.out | refine below_set ?_ GE205.out | refine below_set ?_ GE209.out | refine below_set ?_ GE213.out | refine below_set ?_ GE222.out) | exact HB.out)⟩
                                · rw [if_neg c81] at H
                                  have c81b0 : (t221 == 0) = false := beq_eq_false_iff_ne.mpr c81
                                  have c81b1 : (t221 != 0) = true := bne_iff_ne.mpr c81
                                  obtain rfl := Option.some.inj H
                                  try go_wp2
                                  have n0_ := Aside0.mk (Kd.R_drew HO_17.out)
                                  have n1_ := Aside0.mk (blk_drew BK175.out)
                                  have n2_ := Aside0.mk (blk_drew BK192.out)
                                  have n3_ := Aside0.mk (blk_drew BK205.out)
                                  have n4_ := Aside0.mk (blk_drew BK209.out)
                                  have n5_ := Aside0.mk (blk_drew BK213.out)
                                  have n6_ := Aside0.mk (below_drew1 HB.out)
                                  clear HO_17
                                  clear BK175
                                  clear BK192
                                  clear BK205
                                  clear BK209
                                  clear BK213
                                  clear HB
                                  have HO_17 := n0_
                                  have BK175 := n1_
                                  have BK192 := n2_
                                  have BK205 := n3_
                                  have BK209 := n4_
                                  have BK213 := n5_
                                  have HB := n6_
                                  clear n0_ n1_ n2_ n3_ n4_ n5_ n6_
                                  refine start_ (n := 11) (S := fun w' => w'.cell? ⟨gb175, 0, none⟩ = some (.int .i64 a2_0) ∧ w'.cell? ⟨gb175, 1, none⟩ = some (.int .i64 a2_1) ∧ w'.cell? ⟨gb205, 0, none⟩ = some (.int .i64 t202) ∧ w'.cell? ⟨gb205, 1, none⟩ = some (.int .i64 t203) ∧ w'.cell? ⟨gb213, 0, none⟩ = some (.int .i64 t210) ∧ w'.cell? ⟨gb213, 1, none⟩ = some (.int .i64 t211)) (ds := [10]) #[false, false, false, false, false, false, false, false, false, false, false] (by kernel_rfl) rfl rfl ⟨(blk_cell BK175.out 0).trans rfl, (blk_cell BK175.out 1).trans rfl, (blk_cell BK205.out 0).trans rfl, (blk_cell BK205.out 1).trans rfl, (blk_cell BK213.out 0).trans rfl, (blk_cell BK213.out 1).trans rfl⟩ (fun hHeld => ?_); refine with_tabW selvedgelaw04_ShareHides.tab22 selvedgelaw04_ShareHides.bits22 (fun HT_ HW_ => ?_)
                                  generalize wc.drew = w100 at HO_17 BK175 BK192 BK205 BK209 BK213 HB hHeld ⊢
                                  refine pure_ (i := 0) (N := some 119) (v := ?_) (a' := ?_) #[true, false, false, false, false, false, false, false, false, false, false] rfl rfl (any_of HT_.out (by kernel_rfl)) (fun _ _ _ h => h) (Or.inl ⟨by rfl, ?_⟩) ?_ ?_
                                  rotate_left
                                  · intro w'
                                    go_simp
                                    with_reducible rfl
                                  rotate_left
                                  · simp only [Act.put, List.setIfInBounds_toArray, List.set_cons_zero, List.set_cons_succ, i64_w, i32_w]
                                    rfl
                                  refine pure_ (i := 1) (N := some 120) (v := ?_) (a' := ?_) #[true, true, false, false, false, false, false, false, false, false, false] rfl rfl (any_of HT_.out (by kernel_rfl)) (fun _ _ _ h => h) (Or.inl ⟨by rfl, ?_⟩) ?_ ?_
                                  rotate_left
                                  · intro w'
                                    go_simp
                                    with_reducible rfl
                                  rotate_left
                                  · simp only [Act.put, List.setIfInBounds_toArray, List.set_cons_zero, List.set_cons_succ, i64_w, i32_w]
                                    rfl
                                  refine pure_ (i := 2) (N := some 121) (v := ?_) (a' := ?_) #[true, true, true, false, false, false, false, false, false, false, false] rfl rfl (any_of HT_.out (by kernel_rfl)) (fun _ _ _ h => h) (Or.inl ⟨by rfl, ?_⟩) ?_ ?_
                                  rotate_left
                                  · intro w'
                                    go_simp
                                    with_reducible rfl
                                  rotate_left
                                  · simp only [Act.put, List.setIfInBounds_toArray, List.set_cons_zero, List.set_cons_succ, i64_w, i32_w]
                                    rfl
                                  refine take_ (i := 3) (N := some 122) (v := ?_) (a' := ?_) #[true, true, true, true, false, false, false, false, false, false, false] rfl rfl (take_ofW HT_.out HW_.out (by kernel_rfl)) (fun _ _ _ h => h) (Or.inl ⟨by rfl, ?_⟩) hHeld ?_ ?_
                                  rotate_left
                                  · rintro w' ⟨s0, s1, s2, s3, s4, s5⟩
                                    go_simp
                                    with_reducible rfl
                                  rotate_left
                                  · simp only [Act.put, List.setIfInBounds_toArray, List.set_cons_zero, List.set_cons_succ, i64_w, i32_w]
                                    rfl
                                  refine take_ (i := 4) (N := some 123) (v := ?_) (a' := ?_) #[true, true, true, true, true, false, false, false, false, false, false] rfl rfl (take_ofW HT_.out HW_.out (by kernel_rfl)) (fun _ _ _ h => h) (Or.inl ⟨by rfl, ?_⟩) hHeld ?_ ?_
                                  rotate_left
                                  · rintro w' ⟨s0, s1, s2, s3, s4, s5⟩
                                    go_simp
                                    with_reducible rfl
                                  rotate_left
                                  · simp only [Act.put, List.setIfInBounds_toArray, List.set_cons_zero, List.set_cons_succ, i64_w, i32_w]
                                    rfl
                                  refine take_ (i := 6) (N := some 125) (v := ?_) (a' := ?_) #[true, true, true, true, true, false, true, false, false, false, false] rfl rfl (take_ofW HT_.out HW_.out (by kernel_rfl)) (fun _ _ _ h => h) (Or.inl ⟨by rfl, ?_⟩) hHeld ?_ ?_
                                  rotate_left
                                  · rintro w' ⟨s0, s1, s2, s3, s4, s5⟩
                                    go_simp
                                    with_reducible rfl
                                  rotate_left
                                  · simp only [Act.put, List.setIfInBounds_toArray, List.set_cons_zero, List.set_cons_succ, i64_w, i32_w]
                                    rfl
                                  refine one_ (i := 5) (N := some 124) #[true, true, true, true, true, true, true, false, false, false, false] rfl rfl (one_of HT_.out (by kernel_rfl)) (by decide) (fun K hK => ?_)
                                  refine goes_ Try.func34 (by kernel_rfl) rfl #[.agg #[.int .i64 a2_0, .int .i64 a2_1], .agg #[.int .i64 t202, .int .i64 t203]] (by rfl) rfl rfl (by (try simp only [List.map_toArray, List.map_cons, List.map_nil]); first | done | rfl | (simp only [List.length_drop, List.length_take]; rfl)) ?_
                                  with_reducible refine (selvedgeref03_Sub.calls a2_0 a2_1 t202 t203 t214 t215 _ A74.out).mono ?_
                                  rintro e w101 ⟨rfl, hb⟩
                                  refine ⟨_, rfl, ?_⟩
                                  have n0_ := Aside0.mk (Kd.R_below (by (with_reducible repeat (first | apply Kd.R_alloc | apply Kd.R_drewN | apply Kd.R_drew)); exact HO_17.out) hb)
                                  have n1_ := Aside0.mk (blk_below (g := gb175) (o := .cells #[.int .i64 a2_0, .int .i64 a2_1] 23 (0, 0)) (by (with_reducible repeat (first | refine blk_drewN ?_ _ | refine blk_drew ?_ | refine blk_alloc ?_ _)); exact BK175.out) hb)
                                  have n2_ := Aside0.mk (blk_below (g := gb192) (o := .cells #[.int .i64 (rd t177 (ji33)), .int .i64 0, .int .i64 0] 43 (0, 0)) (by (with_reducible repeat (first | refine blk_drewN ?_ _ | refine blk_drew ?_ | refine blk_alloc ?_ _)); exact BK192.out) hb)
                                  have n3_ := Aside0.mk (blk_below (g := gb205) (o := .cells #[.int .i64 t202, .int .i64 t203] 23 (0, 0)) (by (with_reducible repeat (first | refine blk_drewN ?_ _ | refine blk_drew ?_ | refine blk_alloc ?_ _)); exact BK205.out) hb)
                                  have n4_ := Aside0.mk (blk_below (g := gb209) (o := .cells #[.int .i64 t206, .int .i64 t207] 23 (0, 0)) (by (with_reducible repeat (first | refine blk_drewN ?_ _ | refine blk_drew ?_ | refine blk_alloc ?_ _)); exact BK209.out) hb)
                                  have n5_ := Aside0.mk (blk_below (g := gb213) (o := .cells #[.int .i64 t210, .int .i64 t211] 23 (0, 0)) (by (with_reducible repeat (first | refine blk_drewN ?_ _ | refine blk_drew ?_ | refine blk_alloc ?_ _)); exact BK213.out) hb)
                                  have n6_ := Aside0.mk (below_step (by repeat (first | (with_reducible first | exact HB.out | apply below_alloc | apply pw_below_drewN | apply below_drew1 | refine below_set ?_ GE175.out | refine below_set ?_ GE192.out | refine below_set ?_ GE205.out | refine below_set ?_ GE209.out | refine below_set ?_ GE213.out) | exact HB.out)) hb)
                                  clear HO_17
                                  clear BK175
                                  clear BK192
                                  clear BK205
                                  clear BK209
                                  clear BK213
                                  clear HB
                                  have HO_17 := n0_
                                  have BK175 := n1_
                                  have BK192 := n2_
                                  have BK205 := n3_
                                  have BK209 := n4_
                                  have BK213 := n5_
                                  have HB := n6_
                                  clear n0_ n1_ n2_ n3_ n4_ n5_ n6_
                                  (try clear hb)
                                  (try clear hb2)
                                  (try clear hk)
                                  (try clear hi)
                                  refine hK.out _ _ ⟨(blk_cell BK175.out 0).trans rfl, (blk_cell BK175.out 1).trans rfl, (blk_cell BK205.out 0).trans rfl, (blk_cell BK205.out 1).trans rfl, (blk_cell BK213.out 0).trans rfl, (blk_cell BK213.out 1).trans rfl⟩ (fun hHeld => ?_)
                                  clear hK K
                                  refine norm_ (a' := ?_) ?_ ?_
                                  rotate_left
                                  · show Act.put _ (some 124) _ = _
                                    simp only [Act.put, List.setIfInBounds_toArray, List.set_cons_zero, List.set_cons_succ, i64_w, i32_w]
                                    rfl
                                  refine one_ (i := 7) (N := some 126) #[true, true, true, true, true, true, true, true, false, false, false] rfl rfl (one_of HT_.out (by kernel_rfl)) (by decide) (fun K hK => ?_)
                                  refine goes_ Try.func35 (by kernel_rfl) rfl #[.agg #[.int .i64 t214, .int .i64 t215], .agg #[.int .i64 t210, .int .i64 t211]] (by rfl) rfl rfl (by (try simp only [List.map_toArray, List.map_cons, List.map_nil]); first | done | rfl | (simp only [List.length_drop, List.length_take]; rfl)) ?_
                                  with_reducible refine (selvedgeref03_Mul.calls t214 t215 t210 t211 t216 t217 _ A75.out).mono ?_
                                  rintro e w102 ⟨rfl, hb⟩
                                  refine ⟨_, rfl, ?_⟩
                                  have n0_ := Aside0.mk (Kd.R_below (by (with_reducible repeat (first | apply Kd.R_alloc | apply Kd.R_drewN | apply Kd.R_drew)); exact HO_17.out) hb)
                                  have n1_ := Aside0.mk (blk_below (g := gb175) (o := .cells #[.int .i64 a2_0, .int .i64 a2_1] 23 (0, 0)) (by (with_reducible repeat (first | refine blk_drewN ?_ _ | refine blk_drew ?_ | refine blk_alloc ?_ _)); exact BK175.out) hb)
                                  have n2_ := Aside0.mk (blk_below (g := gb192) (o := .cells #[.int .i64 (rd t177 (ji33)), .int .i64 0, .int .i64 0] 43 (0, 0)) (by (with_reducible repeat (first | refine blk_drewN ?_ _ | refine blk_drew ?_ | refine blk_alloc ?_ _)); exact BK192.out) hb)
                                  have n3_ := Aside0.mk (blk_below (g := gb205) (o := .cells #[.int .i64 t202, .int .i64 t203] 23 (0, 0)) (by (with_reducible repeat (first | refine blk_drewN ?_ _ | refine blk_drew ?_ | refine blk_alloc ?_ _)); exact BK205.out) hb)
                                  have n4_ := Aside0.mk (blk_below (g := gb209) (o := .cells #[.int .i64 t206, .int .i64 t207] 23 (0, 0)) (by (with_reducible repeat (first | refine blk_drewN ?_ _ | refine blk_drew ?_ | refine blk_alloc ?_ _)); exact BK209.out) hb)
                                  have n5_ := Aside0.mk (blk_below (g := gb213) (o := .cells #[.int .i64 t210, .int .i64 t211] 23 (0, 0)) (by (with_reducible repeat (first | refine blk_drewN ?_ _ | refine blk_drew ?_ | refine blk_alloc ?_ _)); exact BK213.out) hb)
                                  have n6_ := Aside0.mk (below_step (by repeat (first | (with_reducible first | exact HB.out | apply below_alloc | apply pw_below_drewN | apply below_drew1 | refine below_set ?_ GE175.out | refine below_set ?_ GE192.out | refine below_set ?_ GE205.out | refine below_set ?_ GE209.out | refine below_set ?_ GE213.out) | exact HB.out)) hb)
                                  clear HO_17
                                  clear BK175
                                  clear BK192
                                  clear BK205
                                  clear BK209
                                  clear BK213
                                  clear HB
                                  have HO_17 := n0_
                                  have BK175 := n1_
                                  have BK192 := n2_
                                  have BK205 := n3_
                                  have BK209 := n4_
                                  have BK213 := n5_
                                  have HB := n6_
                                  clear n0_ n1_ n2_ n3_ n4_ n5_ n6_
                                  (try clear hb)
                                  (try clear hb2)
                                  (try clear hk)
                                  (try clear hi)
                                  have p79 : 0 ≤ ((ji76) : Int) := of_decide_eq_true (by first | (with_reducible assumption) | assumption)
                                  have q79 : ((ji76) : Int) < ((y199.length : Int) : Int) := of_decide_eq_true (by first | (with_reducible assumption) | assumption)
                                  obtain ⟨go79, co79, eo79, gb79, gl79, cl79, HG79⟩ := Kd.R_form HO_17.out (by omega)
                                  (first | cases eo79 | (injection eo79 with ea_ en_ ec_; (first | subst ea_ | (injection ea_ with ea_; subst ea_)); subst ec_; clear en_))
                                  have GB79 := Aside0.mk gb79
                                  have GG79 := Aside0.mk HG79
                                  clear gb79 gl79 HG79
                                  obtain ⟨ce79, hcl79, hM79, hcc79, hfr79⟩ := Kd.R_elem HO_17.out z43 ((ji76) : Int) p79 q79
                                  obtain rfl := k43_openM hM79
                                  have hx79_0 : World.cell? _ ⟨go79, ((ji76) : Int).toNat * 3, none⟩ = some (.int .i64 ((rd_T43 y199 (ji76)).f0)) := hcc79 0 _ rfl
                                  have hx79_1 : World.cell? _ ⟨go79, ((ji76) : Int).toNat * 3 + 1, none⟩ = some (.int .i64 ((rd_T43 y199 (ji76)).f1.f0)) := hcc79 1 _ rfl
                                  have hx79_2 : World.cell? _ ⟨go79, ((ji76) : Int).toNat * 3 + 2, none⟩ = some (.int .i64 ((rd_T43 y199 (ji76)).f1.f1)) := hcc79 2 _ rfl
                                  have hf79_0 : World.frozen? _ ⟨go79, ((ji76) : Int).toNat * 3, none⟩ = false := hfr79 0
                                  have hf79_1 : World.frozen? _ ⟨go79, ((ji76) : Int).toNat * 3 + 1, none⟩ = false := hfr79 1
                                  have hf79_2 : World.frozen? _ ⟨go79, ((ji76) : Int).toNat * 3 + 2, none⟩ = false := hfr79 2
                                  clear hcl79 hcc79 hfr79 hM79
                                  replace p79 := eq_true p79
                                  replace q79 := eq_true q79
                                  obtain ⟨ce103, hcl103, hM103, hcc103, hfr103⟩ := Kd.R_elem HO_17.out z43 ((ji76) : Int) (of_decide_eq_true (by first | (with_reducible assumption) | assumption)) (by have h_ : ((ji76) : Int) < ((y199.length : Int) : Int) := of_decide_eq_true (by first | (with_reducible assumption) | assumption); first | exact h_ | (have e_ := (Kd.R_reads' HO_17.out).1; omega) | simpa using h_)
                                  obtain rfl := k43_openM hM103
                                  have HP103 := (Kd.R_seg HO_17.out ((ji76) : Int) (of_decide_eq_true (by first | (with_reducible assumption) | assumption)) (by have h_ : ((ji76) : Int) < ((y199.length : Int) : Int) := of_decide_eq_true (by first | (with_reducible assumption) | assumption); first | exact h_ | (have e_ := (Kd.R_reads' HO_17.out).1; omega) | simpa using h_) (seg := [.int .i64 t216, .int .i64 t217]) (j := 1) hcl103 hcc103 (show 3 ≤ 3 from by decide) (x' := (⟨(rd_T43 y199 (ji76)).f0, (⟨t216, t217⟩ : S23)⟩ : S43)) (k43_mkM _ _ _ (⟨(rd_T43 y199 (ji76)).f0, (⟨t216, t217⟩ : S23)⟩ : S43) ) (fun _ hk => hk)).1
                                  rw [← Ny218.out] at HP103
                                  have HQ103 := Aside0.mk HP103
                                  clear hcl103 hcc103 hfr103 hM103 HP103
                                  refine hK.out _ _ ⟨(blk_cell BK175.out 0).trans rfl, (blk_cell BK175.out 1).trans rfl, (blk_cell BK205.out 0).trans rfl, (blk_cell BK205.out 1).trans rfl, (blk_cell BK213.out 0).trans rfl, (blk_cell BK213.out 1).trans rfl⟩ (fun hHeld => ?_)
                                  clear hK K
                                  refine norm_ (a' := ?_) ?_ ?_
                                  rotate_left
                                  · show Act.put _ (some 126) _ = _
                                    simp only [Act.put, List.setIfInBounds_toArray, List.set_cons_zero, List.set_cons_succ, i64_w, i32_w]
                                    rfl
                                  refine pure_ (i := 8) (N := some 127) (v := ?_) (a' := ?_) #[true, true, true, true, true, true, true, true, true, false, false] rfl rfl (any_of HT_.out (by kernel_rfl)) (fun _ _ _ h => h) (Or.inl ⟨by rfl, ?_⟩) ?_ ?_
                                  rotate_left
                                  · intro w'
                                    go_simp
                                    with_reducible rfl
                                  rotate_left
                                  · simp only [Act.put, List.setIfInBounds_toArray, List.set_cons_zero, List.set_cons_succ, i64_w, i32_w]
                                    rfl
                                  refine pure_ (i := 9) (N := some 128) (v := ?_) (a' := ?_) #[true, true, true, true, true, true, true, true, true, true, false] rfl rfl (any_of HT_.out (by kernel_rfl)) (fun _ _ _ h => h) (Or.inl ⟨by rfl, ?_⟩) ?_ ?_
                                  rotate_left
                                  · intro w'
                                    go_simp
                                    with_reducible rfl
                                  rotate_left
                                  · simp only [Act.put, List.setIfInBounds_toArray, List.set_cons_zero, List.set_cons_succ, i64_w, i32_w]
                                    rfl
                                  refine last_ (i := 10) (N := none) #[true, true, true, true, true, true, true, true, true, true, true] rfl rfl (one_of HT_.out (by kernel_rfl)) (by decide) (fun K hK => ?_)
                                  refine skip_ (w1 := ?_) (by rfl) rfl ?_ ?_
                                  rotate_left
                                  · go_simp
                                    rfl
                                  refine hK.out _ _ ?_
                                  clear hK K
                                  refine done_ (done_of HT_.out (by kernel_rfl)) ?_
                                  have n0_ : Aside0 (Kd.R k43 43 ((w102.setCell ⟨go79, ((ji76) : Int).toNat * 3 + 1, none⟩ (.int .i64 t216)).setCell ⟨go79, ((ji76) : Int).toNat * 3 + 2, none⟩ (.int .i64 t217)) w.heap.size (fun k_ => k_ ≠ gb192) (.slice (some ⟨go79, 0, none⟩) y199.length co52) y218) := ⟨by (with_reducible repeat (first | apply Kd.R_alloc | apply Kd.R_drewN | apply Kd.R_drew)); exact HQ103.out⟩
                                  have n1_ : Aside0 (((w102.setCell ⟨go79, ((ji76) : Int).toNat * 3 + 1, none⟩ (.int .i64 t216)).setCell ⟨go79, ((ji76) : Int).toNat * 3 + 2, none⟩ (.int .i64 t217)).heap[gb175]? = some (.cells #[.int .i64 a2_0, .int .i64 a2_1] 23 (0, 0))) := ⟨by (with_reducible repeat (first | refine blk_drewN ?_ _ | refine blk_drew ?_ | refine blk_alloc ?_ _)); refine blk_far ?_ (by have h_ := Kd.R_ne HO_17.out BK175.out (by decide); intro e_; exact h_ (by rw [e_]; rfl)) _; (with_reducible repeat (first | refine blk_drewN ?_ _ | refine blk_drew ?_ | refine blk_alloc ?_ _)); refine blk_far ?_ (by have h_ := Kd.R_ne HO_17.out BK175.out (by decide); intro e_; exact h_ (by rw [e_]; rfl)) _; (with_reducible repeat (first | refine blk_drewN ?_ _ | refine blk_drew ?_ | refine blk_alloc ?_ _)); exact BK175.out⟩
                                  have n2_ : Aside0 (((w102.setCell ⟨go79, ((ji76) : Int).toNat * 3 + 1, none⟩ (.int .i64 t216)).setCell ⟨go79, ((ji76) : Int).toNat * 3 + 2, none⟩ (.int .i64 t217)).heap[gb192]? = some (.cells #[.int .i64 (rd t177 (ji33)), .int .i64 0, .int .i64 0] 43 (0, 0))) := ⟨by (with_reducible repeat (first | refine blk_drewN ?_ _ | refine blk_drew ?_ | refine blk_alloc ?_ _)); refine blk_far ?_ (by have h_ := Kd.R_away HO_17.out (fun _ hk => hk); intro e_; exact h_ (by rw [e_]; rfl)) _; (with_reducible repeat (first | refine blk_drewN ?_ _ | refine blk_drew ?_ | refine blk_alloc ?_ _)); refine blk_far ?_ (by have h_ := Kd.R_away HO_17.out (fun _ hk => hk); intro e_; exact h_ (by rw [e_]; rfl)) _; (with_reducible repeat (first | refine blk_drewN ?_ _ | refine blk_drew ?_ | refine blk_alloc ?_ _)); exact BK192.out⟩
                                  have n3_ : Aside0 (((w102.setCell ⟨go79, ((ji76) : Int).toNat * 3 + 1, none⟩ (.int .i64 t216)).setCell ⟨go79, ((ji76) : Int).toNat * 3 + 2, none⟩ (.int .i64 t217)).heap[gb205]? = some (.cells #[.int .i64 t202, .int .i64 t203] 23 (0, 0))) := ⟨by (with_reducible repeat (first | refine blk_drewN ?_ _ | refine blk_drew ?_ | refine blk_alloc ?_ _)); refine blk_far ?_ (by have h_ := Kd.R_ne HO_17.out BK205.out (by decide); intro e_; exact h_ (by rw [e_]; rfl)) _; (with_reducible repeat (first | refine blk_drewN ?_ _ | refine blk_drew ?_ | refine blk_alloc ?_ _)); refine blk_far ?_ (by have h_ := Kd.R_ne HO_17.out BK205.out (by decide); intro e_; exact h_ (by rw [e_]; rfl)) _; (with_reducible repeat (first | refine blk_drewN ?_ _ | refine blk_drew ?_ | refine blk_alloc ?_ _)); exact BK205.out⟩
                                  have n4_ : Aside0 (((w102.setCell ⟨go79, ((ji76) : Int).toNat * 3 + 1, none⟩ (.int .i64 t216)).setCell ⟨go79, ((ji76) : Int).toNat * 3 + 2, none⟩ (.int .i64 t217)).heap[gb209]? = some (.cells #[.int .i64 t206, .int .i64 t207] 23 (0, 0))) := ⟨by (with_reducible repeat (first | refine blk_drewN ?_ _ | refine blk_drew ?_ | refine blk_alloc ?_ _)); refine blk_far ?_ (by have h_ := Kd.R_ne HO_17.out BK209.out (by decide); intro e_; exact h_ (by rw [e_]; rfl)) _; (with_reducible repeat (first | refine blk_drewN ?_ _ | refine blk_drew ?_ | refine blk_alloc ?_ _)); refine blk_far ?_ (by have h_ := Kd.R_ne HO_17.out BK209.out (by decide); intro e_; exact h_ (by rw [e_]; rfl)) _; (with_reducible repeat (first | refine blk_drewN ?_ _ | refine blk_drew ?_ | refine blk_alloc ?_ _)); exact BK209.out⟩
                                  have n5_ : Aside0 (((w102.setCell ⟨go79, ((ji76) : Int).toNat * 3 + 1, none⟩ (.int .i64 t216)).setCell ⟨go79, ((ji76) : Int).toNat * 3 + 2, none⟩ (.int .i64 t217)).heap[gb213]? = some (.cells #[.int .i64 t210, .int .i64 t211] 23 (0, 0))) := ⟨by (with_reducible repeat (first | refine blk_drewN ?_ _ | refine blk_drew ?_ | refine blk_alloc ?_ _)); refine blk_far ?_ (by have h_ := Kd.R_ne HO_17.out BK213.out (by decide); intro e_; exact h_ (by rw [e_]; rfl)) _; (with_reducible repeat (first | refine blk_drewN ?_ _ | refine blk_drew ?_ | refine blk_alloc ?_ _)); refine blk_far ?_ (by have h_ := Kd.R_ne HO_17.out BK213.out (by decide); intro e_; exact h_ (by rw [e_]; rfl)) _; (with_reducible repeat (first | refine blk_drewN ?_ _ | refine blk_drew ?_ | refine blk_alloc ?_ _)); exact BK213.out⟩
                                  have n6_ : Aside0 (Below w.heap.size w ((w102.setCell ⟨go79, ((ji76) : Int).toNat * 3 + 1, none⟩ (.int .i64 t216)).setCell ⟨go79, ((ji76) : Int).toNat * 3 + 2, none⟩ (.int .i64 t217))) := ⟨by repeat (first | (with_reducible first | exact HB.out | apply below_alloc | apply pw_below_drewN | apply below_drew1 | refine below_set ?_ GB79.out | refine below_set ?_ GB79.out | refine below_set ?_ GE175.out | refine below_set ?_ GE192.out | refine below_set ?_ GE205.out | refine below_set ?_ GE209.out | refine below_set ?_ GE213.out) | exact HB.out)⟩
                                  (try clear HO_17)
                                  (try clear BK175)
                                  (try clear BK192)
                                  (try clear BK205)
                                  (try clear BK209)
                                  (try clear BK213)
                                  (try clear HB)
                                  generalize ((w102.setCell ⟨go79, ((ji76) : Int).toNat * 3 + 1, none⟩ (.int .i64 t216)).setCell ⟨go79, ((ji76) : Int).toNat * 3 + 2, none⟩ (.int .i64 t217)) = w104 at n0_ n1_ n2_ n3_ n4_ n5_ n6_ ⊢
                                  have HO_17 := n0_
                                  have BK175 := n1_
                                  have BK192 := n2_
                                  have BK205 := n3_
                                  have BK209 := n4_
                                  have BK213 := n5_
                                  have HB := n6_
                                  clear n0_ n1_ n2_ n3_ n4_ n5_ n6_
                                  try go_wp2_with (first | ((with_reducible refine gate_callee (f := 45) rfl ?_); refine goesL_ (some 131) rfl rfl Try.func45 (by kernel_rfl) rfl #[.slice (some ⟨go79, 0, none⟩) y218.length co52] rfl (by (try simp only [List.map_toArray, List.map_cons, List.map_nil]); first | done | (rw [show y218.length = y199.length from (Kd.R_reads' HO_17.out).1.symm] <;> rfl) | rfl | (simp only [List.length_drop, List.length_take]; rfl)) ?_; (with_reducible refine (share_Open.calls _ _ y218 t219 t220 t221 _ ?side1 ?side2 A80.out).mono ?_); (case side1 => repeat (first | exact (Kd.R_reads' HO_17.out).2.2 | (with_reducible refine Kd.C_alloc ?_ _) | (with_reducible refine Kd.C_drewN ?_ _) | (with_reducible refine Kd.C_drew ?_))); (case side2 => rw [show y218.length = y199.length from (Kd.R_reads' HO_17.out).1.symm]; exact (Kd.R_reads' HO_17.out).2.1); rintro e w105 ⟨rfl, hb⟩; refine ⟨_, rfl, ?_⟩; have n0_ := Aside0.mk (Kd.R_below (by (with_reducible repeat (first | apply Kd.R_alloc | apply Kd.R_drewN | apply Kd.R_drew)); exact HO_17.out) hb); have n1_ := Aside0.mk (blk_below (g := gb175) (o := .cells #[.int .i64 a2_0, .int .i64 a2_1] 23 (0, 0)) (by (with_reducible repeat (first | refine blk_drewN ?_ _ | refine blk_drew ?_ | refine blk_alloc ?_ _)); exact BK175.out) hb); have n2_ := Aside0.mk (blk_below (g := gb192) (o := .cells #[.int .i64 (rd t177 (ji33)), .int .i64 0, .int .i64 0] 43 (0, 0)) (by (with_reducible repeat (first | refine blk_drewN ?_ _ | refine blk_drew ?_ | refine blk_alloc ?_ _)); exact BK192.out) hb); have n3_ := Aside0.mk (blk_below (g := gb205) (o := .cells #[.int .i64 t202, .int .i64 t203] 23 (0, 0)) (by (with_reducible repeat (first | refine blk_drewN ?_ _ | refine blk_drew ?_ | refine blk_alloc ?_ _)); exact BK205.out) hb); have n4_ := Aside0.mk (blk_below (g := gb209) (o := .cells #[.int .i64 t206, .int .i64 t207] 23 (0, 0)) (by (with_reducible repeat (first | refine blk_drewN ?_ _ | refine blk_drew ?_ | refine blk_alloc ?_ _)); exact BK209.out) hb); have n5_ := Aside0.mk (blk_below (g := gb213) (o := .cells #[.int .i64 t210, .int .i64 t211] 23 (0, 0)) (by (with_reducible repeat (first | refine blk_drewN ?_ _ | refine blk_drew ?_ | refine blk_alloc ?_ _)); exact BK213.out) hb); have n6_ := Aside0.mk (below_step (by repeat (first | (with_reducible first | exact HB.out | apply below_alloc | apply pw_below_drewN | apply below_drew1 | refine below_set ?_ GE175.out | refine below_set ?_ GE192.out | refine below_set ?_ GE205.out | refine below_set ?_ GE209.out | refine below_set ?_ GE213.out) | exact HB.out)) hb); clear HO_17; clear BK175; clear BK192; clear BK205; clear BK209; clear BK213; clear HB; have HO_17 := n0_; have BK175 := n1_; have BK192 := n2_; have BK205 := n3_; have BK209 := n4_; have BK213 := n5_; have HB := n6_; clear n0_ n1_ n2_ n3_ n4_ n5_ n6_; (try clear hb); (try clear hb2); (try clear hk); (try clear hi)) | ((with_reducible refine gate_dst (N := 24) rfl ?_); (try (refine gate_guard (by rfl) ?_; dsimp only)); refine box_event ?hg (N := 24) ?hd (cs := #[.int .i64 0, .int .i64 0]) (t := 23) ?hr ?_; (case hd => rfl); (case hg => rfl); (case hr => first | (go_simp; done) | (go_simp; rfl)); intro gb222 hg w106 hbox hb; have n0_ := Aside0.mk (Kd.R_below (by (with_reducible repeat (first | apply Kd.R_alloc | apply Kd.R_drewN | apply Kd.R_drew)); exact HO_17.out) hb); have n1_ := Aside0.mk (blk_below (g := gb175) (o := .cells #[.int .i64 a2_0, .int .i64 a2_1] 23 (0, 0)) (by (with_reducible repeat (first | refine blk_drewN ?_ _ | refine blk_drew ?_ | refine blk_alloc ?_ _)); exact BK175.out) hb); have n2_ := Aside0.mk (blk_below (g := gb192) (o := .cells #[.int .i64 (rd t177 (ji33)), .int .i64 0, .int .i64 0] 43 (0, 0)) (by (with_reducible repeat (first | refine blk_drewN ?_ _ | refine blk_drew ?_ | refine blk_alloc ?_ _)); exact BK192.out) hb); have n3_ := Aside0.mk (blk_below (g := gb205) (o := .cells #[.int .i64 t202, .int .i64 t203] 23 (0, 0)) (by (with_reducible repeat (first | refine blk_drewN ?_ _ | refine blk_drew ?_ | refine blk_alloc ?_ _)); exact BK205.out) hb); have n4_ := Aside0.mk (blk_below (g := gb209) (o := .cells #[.int .i64 t206, .int .i64 t207] 23 (0, 0)) (by (with_reducible repeat (first | refine blk_drewN ?_ _ | refine blk_drew ?_ | refine blk_alloc ?_ _)); exact BK209.out) hb); have n5_ := Aside0.mk (blk_below (g := gb213) (o := .cells #[.int .i64 t210, .int .i64 t211] 23 (0, 0)) (by (with_reducible repeat (first | refine blk_drewN ?_ _ | refine blk_drew ?_ | refine blk_alloc ?_ _)); exact BK213.out) hb); have n6_ := Aside0.mk (below_step (by repeat (first | (with_reducible first | exact HB.out | apply below_alloc | apply pw_below_drewN | apply below_drew1 | refine below_set ?_ GE175.out | refine below_set ?_ GE192.out | refine below_set ?_ GE205.out | refine below_set ?_ GE209.out | refine below_set ?_ GE213.out) | exact HB.out)) hb); have n7_ := Aside0.mk (hbox); have n8_ := Aside0.mk ((by rw [hg]; exact (below_size (by repeat (first | (with_reducible first | exact HB.out | apply below_alloc | apply pw_below_drewN | apply below_drew1 | refine below_set ?_ GE175.out | refine below_set ?_ GE192.out | refine below_set ?_ GE205.out | refine below_set ?_ GE209.out | refine below_set ?_ GE213.out) | exact HB.out))) : w.heap.size ≤ gb222)); have n9_ := Aside0.mk ((by rw [hg]; exact (below_size (by repeat (first | (with_reducible first | exact HB.out | apply below_alloc | apply pw_below_drewN | apply below_drew1 | refine below_set ?_ GE175.out | refine below_set ?_ GE192.out | refine below_set ?_ GE205.out | refine below_set ?_ GE209.out | refine below_set ?_ GE213.out) | exact HB.out))) : w.heap.size ≤ gb222)); have n10_ := Aside0.mk ((by rw [hg]; exact Nat.ne_of_lt (blk_lt (g := gb175) (o := .cells #[.int .i64 a2_0, .int .i64 a2_1] 23 (0, 0)) (by (with_reducible repeat (first | refine blk_drewN ?_ _ | refine blk_drew ?_ | refine blk_alloc ?_ _)); exact BK175.out)) : gb175 ≠ gb222)); have n11_ := Aside0.mk ((by rw [hg]; exact Nat.ne_of_gt (blk_lt (g := gb175) (o := .cells #[.int .i64 a2_0, .int .i64 a2_1] 23 (0, 0)) (by (with_reducible repeat (first | refine blk_drewN ?_ _ | refine blk_drew ?_ | refine blk_alloc ?_ _)); exact BK175.out)) : gb222 ≠ gb175)); have n12_ := Aside0.mk ((by rw [hg]; exact Nat.ne_of_lt (blk_lt (g := gb192) (o := .cells #[.int .i64 (rd t177 (ji33)), .int .i64 0, .int .i64 0] 43 (0, 0)) (by (with_reducible repeat (first | refine blk_drewN ?_ _ | refine blk_drew ?_ | refine blk_alloc ?_ _)); exact BK192.out)) : gb192 ≠ gb222)); have n13_ := Aside0.mk ((by rw [hg]; exact Nat.ne_of_gt (blk_lt (g := gb192) (o := .cells #[.int .i64 (rd t177 (ji33)), .int .i64 0, .int .i64 0] 43 (0, 0)) (by (with_reducible repeat (first | refine blk_drewN ?_ _ | refine blk_drew ?_ | refine blk_alloc ?_ _)); exact BK192.out)) : gb222 ≠ gb192)); have n14_ := Aside0.mk ((by rw [hg]; exact Nat.ne_of_lt (blk_lt (g := gb205) (o := .cells #[.int .i64 t202, .int .i64 t203] 23 (0, 0)) (by (with_reducible repeat (first | refine blk_drewN ?_ _ | refine blk_drew ?_ | refine blk_alloc ?_ _)); exact BK205.out)) : gb205 ≠ gb222)); have n15_ := Aside0.mk ((by rw [hg]; exact Nat.ne_of_gt (blk_lt (g := gb205) (o := .cells #[.int .i64 t202, .int .i64 t203] 23 (0, 0)) (by (with_reducible repeat (first | refine blk_drewN ?_ _ | refine blk_drew ?_ | refine blk_alloc ?_ _)); exact BK205.out)) : gb222 ≠ gb205)); have n16_ := Aside0.mk ((by rw [hg]; exact Nat.ne_of_lt (blk_lt (g := gb209) (o := .cells #[.int .i64 t206, .int .i64 t207] 23 (0, 0)) (by (with_reducible repeat (first | refine blk_drewN ?_ _ | refine blk_drew ?_ | refine blk_alloc ?_ _)); exact BK209.out)) : gb209 ≠ gb222)); have n17_ := Aside0.mk ((by rw [hg]; exact Nat.ne_of_gt (blk_lt (g := gb209) (o := .cells #[.int .i64 t206, .int .i64 t207] 23 (0, 0)) (by (with_reducible repeat (first | refine blk_drewN ?_ _ | refine blk_drew ?_ | refine blk_alloc ?_ _)); exact BK209.out)) : gb222 ≠ gb209)); have n18_ := Aside0.mk ((by rw [hg]; exact Nat.ne_of_lt (blk_lt (g := gb213) (o := .cells #[.int .i64 t210, .int .i64 t211] 23 (0, 0)) (by (with_reducible repeat (first | refine blk_drewN ?_ _ | refine blk_drew ?_ | refine blk_alloc ?_ _)); exact BK213.out)) : gb213 ≠ gb222)); have n19_ := Aside0.mk ((by rw [hg]; exact Nat.ne_of_gt (blk_lt (g := gb213) (o := .cells #[.int .i64 t210, .int .i64 t211] 23 (0, 0)) (by (with_reducible repeat (first | refine blk_drewN ?_ _ | refine blk_drew ?_ | refine blk_alloc ?_ _)); exact BK213.out)) : gb222 ≠ gb213)); clear HO_17; clear BK175; clear BK192; clear BK205; clear BK209; clear BK213; clear HB; have HO_17 := n0_; have BK175 := n1_; have BK192 := n2_; have BK205 := n3_; have BK209 := n4_; have BK213 := n5_; have HB := n6_; have BK222 := n7_; have GW222 := n8_; have GE222 := n9_; have NB175_222 := n10_; have NB222_175 := n11_; have NB192_222 := n12_; have NB222_192 := n13_; have NB205_222 := n14_; have NB222_205 := n15_; have NB209_222 := n16_; have NB222_209 := n17_; have NB213_222 := n18_; have NB222_213 := n19_; clear n0_ n1_ n2_ n3_ n4_ n5_ n6_ n7_ n8_ n9_ n10_ n11_ n12_ n13_ n14_ n15_ n16_ n17_ n18_ n19_; clear hb hbox hg; have hnb107 := NB222_175.out; have hnc107 := NB175_222.out; have hnb108 := NB222_192.out; have hnc108 := NB192_222.out; have hnb109 := NB222_205.out; have hnc109 := NB205_222.out; have hnb110 := NB222_209.out; have hnc110 := NB209_222.out; have hnb111 := NB222_213.out; have hnc111 := NB213_222.out; have hcz112_0 : w106.cell? ⟨gb222, 0, none⟩ = some (.int .i64 0) := (blk_cell BK222.out 0).trans rfl; have hcz112_1 : w106.cell? ⟨gb222, 1, none⟩ = some (.int .i64 0) := (blk_cell BK222.out 1).trans rfl; have hfz112_0 := blk_frozen BK222.out 0; have hfz112_1 := blk_frozen BK222.out 1))
                                  go_ret
                                  exact ⟨by first | rfl | (simp [errW_none, errW_some] <;> rfl) | (simp only [← hji33, ← hji76]; first | rfl | (simp [errW_none, errW_some] <;> rfl)) | (simp [*, errW_none, errW_some] <;> rfl), by repeat (first | (with_reducible first | exact HB.out | apply below_alloc | apply pw_below_drewN | apply below_drew1 | refine below_set ?_ GE175.out | refine below_set ?_ GE192.out | refine below_set ?_ GE205.out | refine below_set ?_ GE209.out | refine below_set ?_ GE213.out | refine below_set ?_ GE222.out) | exact HB.out)⟩
                              · rw [if_neg c78] at H
                                exact absurd H (by simp)
                            · rw [if_neg c77] at H
                              exact absurd H (by simp)
                    · rw [if_neg c37] at H
                      exact absurd H (by simp)
                  · rw [if_neg c36] at H
                    exact absurd H (by simp)
                · rw [if_neg c35] at H
                  exact absurd H (by simp)
              · rw [if_neg c34] at H
                exact absurd H (by simp)

end Go.Proofs.Ytokkkeepifpbpaa.PShareHides
