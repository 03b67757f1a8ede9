-- written by a program of this session (pp.py), out of the kit's print and this session's contracts
import Derived.Test.YtefdokolbdnjnaaPCutAllx0
import Derived.Test.YtefdokolbdnjnaaPCutAllx1
import Derived.Test.YtefdokolbdnjnaaPCutAllx2
import Derived.Test.YtefdokolbdnjnaaPCutAllx3
namespace Go.Proofs.Ytefdokolbdnjnaa.PCutAll
open Go.RowKit Go.Proofs.YtefdokolbdnjnaaW.PrintWords Go.Proofs.YtefdokolbdnjnaaW.PrintLast Go.Proofs.YtefdokolbdnjnaaW.PrintMore
attribute [local go_sem] max2_int min2_int max_two min_two max_three min_three max_four min_four   -- for this text's walks alone
set_option linter.unusedVariables false
set_option linter.unusedSimpArgs false

/-! ### selvedgelaw15_CutAll: function 12 -/
mutual
def selvedgelaw15_CutAll.l0 : Nat → List (S56) → Bool → List (S40) → List ByteArray → Int → Int → ByteArray → List ByteArray → Option (Bool)
  | 0, _, _, _, _, _, _, _, _ => none
  | k + 1, x0, x3, x4, x6, x7, x205000, x205001, x205002 => if x7 < (x0.length : Int) then (if 0 ≤ x7 then (if x6.length + ((rd_T56 x0 x7).f0).length < 8796093022208 then (selvedgelaw15_CutAll.l0 k x0 x3 x4 (x6 ++ ((rd_T56 x0 x7).f0)) (wrap64 (x7 + 1)) x205000 x205001 x205002) else (none)) else (none)) else (selvedgelaw15_CutAll.l1 k x3 x4 x6 ([] : List ByteArray) 0 x205000 x205001 x205002)
def selvedgelaw15_CutAll.l1 : Nat → Bool → List (S40) → List ByteArray → List ByteArray → Int → Int → ByteArray → List ByteArray → Option (Bool)
  | 0, _, _, _, _, _, _, _, _ => none
  | k + 1, x3, x4, x6, x8, x9, x205000, x205001, x205002 => if x9 < (x4.length : Int) then (if 0 ≤ x9 then (if (((rd_T40 x4 x9).f2).length : Int) < 1 then (selvedgelaw15_CutAll.j2 k x3 x4 x6 x8 x9 true x205000 x205001 x205002) else (selvedgelaw15_CutAll.j2 k x3 x4 x6 x8 x9 (decide ((((rd_T40 x4 x9).f2).length : Int) > 6)) x205000 x205001 x205002)) else (none)) else (if x8.length + x205002.length < 8796093022208 then (if x3 = true then ((selvedgeref01_Same.f k (x8 ++ x205002) x6).bind fun t212 => (if t212 = true then ((selvedgeref15_Chained.f k x4 0 (⟨#[]⟩ : ByteArray)).bind fun t213 => (if t213 = true then (some (x205000 == (x4.length : Int))) else (some false))) else (some false))) else (some false)) else (none))
def selvedgelaw15_CutAll.j2 : Nat → Bool → List (S40) → List ByteArray → List ByteArray → Int → Bool → Int → ByteArray → List ByteArray → Option (Bool)
  | 0, _, _, _, _, _, _, _, _, _ => none
  | k + 1, x3, x4, x6, x8, x9, x56, x205000, x205001, x205002 => if x56 = true then (some false) else (selvedgelaw15_CutAll.l2 k x3 x4 x6 x8 x9 0 0 x205000 x205001 x205002)
def selvedgelaw15_CutAll.l2 : Nat → Bool → List (S40) → List ByteArray → List ByteArray → Int → Int → Int → Int → ByteArray → List ByteArray → Option (Bool)
  | 0, _, _, _, _, _, _, _, _, _, _ => none
  | k + 1, x3, x4, x6, x8, x9, x10, x11, x205000, x205001, x205002 => if 0 ≤ x9 then (if x9 < (x4.length : Int) then (if x11 < (((rd_T40 x4 x9).f2).length : Int) then (if 0 ≤ x11 then (if ((rdOf ByteArray.empty ((rd_T40 x4 x9).f2) x11).size : Int) > 1000 then (some x3) else (selvedgelaw15_CutAll.l2 k x3 x4 x6 x8 x9 (wrap64 (x10 + ((rdOf ByteArray.empty ((rd_T40 x4 x9).f2) x11).size : Int))) (wrap64 (x11 + 1)) x205000 x205001 x205002)) else (none)) else (if x10 > 128 then (if (((rd_T40 x4 x9).f2).length : Int) > 1 then (some false) else (if x8.length + ((rd_T40 x4 x9).f2).length < 8796093022208 then (selvedgelaw15_CutAll.l1 k x3 x4 x6 (x8 ++ ((rd_T40 x4 x9).f2)) (wrap64 (x9 + 1)) x205000 x205001 x205002) else (none))) else (if x8.length + ((rd_T40 x4 x9).f2).length < 8796093022208 then (selvedgelaw15_CutAll.l1 k x3 x4 x6 (x8 ++ ((rd_T40 x4 x9).f2)) (wrap64 (x9 + 1)) x205000 x205001 x205002) else (none)))) else (none)) else (none)
end
def selvedgelaw15_CutAll.f (k : Nat) (l0 : List (S56)) : Option (Bool) := (selvedgelaw15_shown.f k).bind fun t195 => (if (l0.length : Int) > 40 then (some t195) else ((selvedgelaw15_runs.f k l0).bind fun bt196 => (selvedgelaw15_CutAll.l0 k l0 t195 bt196.1 ([] : List ByteArray) 0 bt196.2.1 bt196.2.2.1 bt196.2.2.2)))
theorem selvedgelaw15_CutAll.mono_l : ∀ k, (∀ y0 y1 y2 y3 y4 y5 y6 y7, LeO (selvedgelaw15_CutAll.l0 k y0 y1 y2 y3 y4 y5 y6 y7) (selvedgelaw15_CutAll.l0 (k + 1) y0 y1 y2 y3 y4 y5 y6 y7)) ∧ (∀ y0 y1 y2 y3 y4 y5 y6 y7, LeO (selvedgelaw15_CutAll.l1 k y0 y1 y2 y3 y4 y5 y6 y7) (selvedgelaw15_CutAll.l1 (k + 1) y0 y1 y2 y3 y4 y5 y6 y7)) ∧ (∀ y0 y1 y2 y3 y4 y5 y6 y7 y8, LeO (selvedgelaw15_CutAll.j2 k y0 y1 y2 y3 y4 y5 y6 y7 y8) (selvedgelaw15_CutAll.j2 (k + 1) y0 y1 y2 y3 y4 y5 y6 y7 y8)) ∧ (∀ y0 y1 y2 y3 y4 y5 y6 y7 y8 y9, LeO (selvedgelaw15_CutAll.l2 k y0 y1 y2 y3 y4 y5 y6 y7 y8 y9) (selvedgelaw15_CutAll.l2 (k + 1) y0 y1 y2 y3 y4 y5 y6 y7 y8 y9))
  | 0 => ⟨fun _ _ _ _ _ _ _ _ r h => by simp [selvedgelaw15_CutAll.l0] at h, fun _ _ _ _ _ _ _ _ r h => by simp [selvedgelaw15_CutAll.l1] at h, fun _ _ _ _ _ _ _ _ _ r h => by simp [selvedgelaw15_CutAll.j2] at h, fun _ _ _ _ _ _ _ _ _ _ r h => by simp [selvedgelaw15_CutAll.l2] at h⟩
  | k + 1 => by
    obtain ⟨ih0, ih1, ih2, ih3⟩ := selvedgelaw15_CutAll.mono_l k
    refine ⟨?_, ?_, ?_, ?_⟩
    · intro y0 y1 y2 y3 y4 y5 y6 y7
      unfold selvedgelaw15_CutAll.l0
      repeat' first
      | (with_reducible exact ih0 _ _ _ _ _ _ _ _)
      | (with_reducible exact ih1 _ _ _ _ _ _ _ _)
      | (with_reducible exact ih2 _ _ _ _ _ _ _ _ _)
      | (with_reducible exact ih3 _ _ _ _ _ _ _ _ _ _)
      | (with_reducible exact selvedgelaw15_runs.mono _ _)
      | (with_reducible exact selvedgelaw15_shown.mono _)
      | (with_reducible exact selvedgeref01_Same.mono _ _ _)
      | (with_reducible exact selvedgeref15_Chained.mono _ _ _ _)
      | (with_reducible exact LeO.refl _)
      | (with_reducible exact LeO.none _)
      | (with_reducible refine LeO.ite ?_ ?_)
      | (with_reducible refine LeO.bind ?_ (fun _ => ?_))
      | exact ih0 _ _ _ _ _ _ _ _
      | exact ih1 _ _ _ _ _ _ _ _
      | exact ih2 _ _ _ _ _ _ _ _ _
      | exact ih3 _ _ _ _ _ _ _ _ _ _
      | exact selvedgelaw15_runs.mono _ _
      | exact selvedgelaw15_shown.mono _
      | exact selvedgeref01_Same.mono _ _ _
      | exact selvedgeref15_Chained.mono _ _ _ _
      | exact LeO.none _
      | refine LeO.ite ?_ ?_
      | refine LeO.bind ?_ (fun _ => ?_)
    · intro y0 y1 y2 y3 y4 y5 y6 y7
      unfold selvedgelaw15_CutAll.l1
      repeat' first
      | (with_reducible exact ih0 _ _ _ _ _ _ _ _)
      | (with_reducible exact ih1 _ _ _ _ _ _ _ _)
      | (with_reducible exact ih2 _ _ _ _ _ _ _ _ _)
      | (with_reducible exact ih3 _ _ _ _ _ _ _ _ _ _)
      | (with_reducible exact selvedgelaw15_runs.mono _ _)
      | (with_reducible exact selvedgelaw15_shown.mono _)
      | (with_reducible exact selvedgeref01_Same.mono _ _ _)
      | (with_reducible exact selvedgeref15_Chained.mono _ _ _ _)
      | (with_reducible exact LeO.refl _)
      | (with_reducible exact LeO.none _)
      | (with_reducible refine LeO.ite ?_ ?_)
      | (with_reducible refine LeO.bind ?_ (fun _ => ?_))
      | exact ih0 _ _ _ _ _ _ _ _
      | exact ih1 _ _ _ _ _ _ _ _
      | exact ih2 _ _ _ _ _ _ _ _ _
      | exact ih3 _ _ _ _ _ _ _ _ _ _
      | exact selvedgelaw15_runs.mono _ _
      | exact selvedgelaw15_shown.mono _
      | exact selvedgeref01_Same.mono _ _ _
      | exact selvedgeref15_Chained.mono _ _ _ _
      | exact LeO.none _
      | refine LeO.ite ?_ ?_
      | refine LeO.bind ?_ (fun _ => ?_)
    · intro y0 y1 y2 y3 y4 y5 y6 y7 y8
      unfold selvedgelaw15_CutAll.j2
      repeat' first
      | (with_reducible exact ih0 _ _ _ _ _ _ _ _)
      | (with_reducible exact ih1 _ _ _ _ _ _ _ _)
      | (with_reducible exact ih2 _ _ _ _ _ _ _ _ _)
      | (with_reducible exact ih3 _ _ _ _ _ _ _ _ _ _)
      | (with_reducible exact selvedgelaw15_runs.mono _ _)
      | (with_reducible exact selvedgelaw15_shown.mono _)
      | (with_reducible exact selvedgeref01_Same.mono _ _ _)
      | (with_reducible exact selvedgeref15_Chained.mono _ _ _ _)
      | (with_reducible exact LeO.refl _)
      | (with_reducible exact LeO.none _)
      | (with_reducible refine LeO.ite ?_ ?_)
      | (with_reducible refine LeO.bind ?_ (fun _ => ?_))
      | exact ih0 _ _ _ _ _ _ _ _
      | exact ih1 _ _ _ _ _ _ _ _
      | exact ih2 _ _ _ _ _ _ _ _ _
      | exact ih3 _ _ _ _ _ _ _ _ _ _
      | exact selvedgelaw15_runs.mono _ _
      | exact selvedgelaw15_shown.mono _
      | exact selvedgeref01_Same.mono _ _ _
      | exact selvedgeref15_Chained.mono _ _ _ _
      | exact LeO.none _
      | refine LeO.ite ?_ ?_
      | refine LeO.bind ?_ (fun _ => ?_)
    · intro y0 y1 y2 y3 y4 y5 y6 y7 y8 y9
      unfold selvedgelaw15_CutAll.l2
      repeat' first
      | (with_reducible exact ih0 _ _ _ _ _ _ _ _)
      | (with_reducible exact ih1 _ _ _ _ _ _ _ _)
      | (with_reducible exact ih2 _ _ _ _ _ _ _ _ _)
      | (with_reducible exact ih3 _ _ _ _ _ _ _ _ _ _)
      | (with_reducible exact selvedgelaw15_runs.mono _ _)
      | (with_reducible exact selvedgelaw15_shown.mono _)
      | (with_reducible exact selvedgeref01_Same.mono _ _ _)
      | (with_reducible exact selvedgeref15_Chained.mono _ _ _ _)
      | (with_reducible exact LeO.refl _)
      | (with_reducible exact LeO.none _)
      | (with_reducible refine LeO.ite ?_ ?_)
      | (with_reducible refine LeO.bind ?_ (fun _ => ?_))
      | exact ih0 _ _ _ _ _ _ _ _
      | exact ih1 _ _ _ _ _ _ _ _
      | exact ih2 _ _ _ _ _ _ _ _ _
      | exact ih3 _ _ _ _ _ _ _ _ _ _
      | exact selvedgelaw15_runs.mono _ _
      | exact selvedgelaw15_shown.mono _
      | exact selvedgeref01_Same.mono _ _ _
      | exact selvedgeref15_Chained.mono _ _ _ _
      | exact LeO.none _
      | refine LeO.ite ?_ ?_
      | refine LeO.bind ?_ (fun _ => ?_)
theorem selvedgelaw15_CutAll.mono : ∀ a0 k, LeO (selvedgelaw15_CutAll.f k a0) (selvedgelaw15_CutAll.f (k + 1) a0) := by
  intro a0 k
  obtain ⟨ih0, ih1, ih2, ih3⟩ := selvedgelaw15_CutAll.mono_l k
  unfold selvedgelaw15_CutAll.f
  repeat' first
      | (with_reducible exact ih0 _ _ _ _ _ _ _ _)
      | (with_reducible exact ih1 _ _ _ _ _ _ _ _)
      | (with_reducible exact ih2 _ _ _ _ _ _ _ _ _)
      | (with_reducible exact ih3 _ _ _ _ _ _ _ _ _ _)
      | (with_reducible exact selvedgelaw15_runs.mono _ _)
      | (with_reducible exact selvedgelaw15_shown.mono _)
      | (with_reducible exact selvedgeref01_Same.mono _ _ _)
      | (with_reducible exact selvedgeref15_Chained.mono _ _ _ _)
      | (with_reducible exact LeO.refl _)
      | (with_reducible exact LeO.none _)
      | (with_reducible refine LeO.ite ?_ ?_)
      | (with_reducible refine LeO.bind ?_ (fun _ => ?_))
      | exact ih0 _ _ _ _ _ _ _ _
      | exact ih1 _ _ _ _ _ _ _ _
      | exact ih2 _ _ _ _ _ _ _ _ _
      | exact ih3 _ _ _ _ _ _ _ _ _ _
      | exact selvedgelaw15_runs.mono _ _
      | exact selvedgelaw15_shown.mono _
      | exact selvedgeref01_Same.mono _ _ _
      | exact selvedgeref15_Chained.mono _ _ _ _
      | exact LeO.none _
      | refine LeO.ite ?_ ?_
      | refine LeO.bind ?_ (fun _ => ?_)
set_option maxHeartbeats 8000000 in
set_option maxRecDepth 100000 in
theorem selvedgelaw15_CutAll.calls (k : Nat) (A0 : Option Addr) (c0 : Nat) (l0 : List (S56)) (r : Bool) (w : World) (hr0 : Kd.C k56 w A0 l0.length l0) (hc0 : l0.length ≤ c0) (h : selvedgelaw15_CutAll.f k l0 = some r) :
    Calls Try.prog 12 #[.slice A0 l0.length c0] w fun e w' => e = .returned (.bool r) ∧ Below w.heap.size w w' := by
  have hu39 := Try.underlying39
  have HR0 := Aside0.mk hr0
  have HC0 := Aside0.mk hc0
  clear hr0 hc0
  have HB := Aside0.mk (Below.refl w.heap.size w)
  have H : ((selvedgelaw15_shown.f k).bind fun t195 => (if (l0.length : Int) > 40 then (some t195) else ((selvedgelaw15_runs.f k l0).bind fun bt196 => (selvedgelaw15_CutAll.l0 k l0 t195 bt196.1 ([] : List ByteArray) 0 bt196.2.1 bt196.2.2.1 bt196.2.2.2)))) = some r := h
  clear h
  replace H := Option.bind_eq_some_iff.mp H
  obtain ⟨t195, A20, H⟩ := H
  replace H : (if (l0.length : Int) > 40 then (some t195) else ((selvedgelaw15_runs.f k l0).bind fun bt196 => (selvedgelaw15_CutAll.l0 k l0 t195 bt196.1 ([] : List ByteArray) 0 bt196.2.1 bt196.2.2.1 bt196.2.2.2))) = some r := H
  have A2 := Aside0.mk A20
  clear A20
  by_cases c3 : (l0.length : Int) > 40
  · rw [if_pos c3] at H
    have c3b0 : decide (40 < (l0.length : Int)) = true := decide_eq_true c3
    have c3b1 : decide (40 < l0.length) = true := decide_eq_true (by omega)
    clear c3
    obtain rfl := Option.some.inj H
    go_enter Try.func12, Try.ntmps12
    go_wp2_with (first | ((with_reducible refine gate_callee (f := 37) rfl ?_); refine goesL_ (some 12) rfl rfl Try.func37 (by kernel_rfl) rfl #[] rfl (by (try simp only [List.map_toArray, List.map_cons, List.map_nil]); first | done | rfl | (simp only [List.length_drop, List.length_take]; rfl)) ?_; (with_reducible refine (selvedgelaw15_shown.calls k  t195 _ A2.out).mono ?_); rintro e w4 ⟨rfl, hb⟩; refine ⟨_, rfl, ?_⟩; have n0_ := Aside0.mk (below_step (by repeat (first | (with_reducible first | exact HB.out | apply below_alloc | apply pw_below_drewN | apply below_drew1) | exact HB.out)) hb); clear HB; have HB := n0_; clear n0_; (try clear hb); (try clear hb2); (try clear hk); (try clear hi)))
    go_ret
    exact ⟨by first | rfl | (simp [errW_none, errW_some] <;> rfl) | (simp [*, errW_none, errW_some] <;> rfl), by repeat (first | (with_reducible first | exact HB.out | apply below_alloc | apply pw_below_drewN | apply below_drew1) | exact HB.out)⟩
  · rw [if_neg c3] at H
    have c3b0 : decide (40 < (l0.length : Int)) = false := decide_eq_false c3
    have c3b1 : decide (40 < l0.length) = false := decide_eq_false (by omega)
    clear c3
    replace H := Option.bind_eq_some_iff.mp H
    obtain ⟨⟨t196, t199, t200, t201⟩, A50, H⟩ := H
    replace H : (selvedgelaw15_CutAll.l0 k l0 t195 t196 ([] : List ByteArray) 0 t199 t200 t201) = some r := H
    have A5 := Aside0.mk A50
    clear A50
    have H' := Aside0.mk H
    clear H
    go_enter Try.func12, Try.ntmps12
    go_wp2_with (first | ((with_reducible refine gate_callee (f := 37) rfl ?_); refine goesL_ (some 12) rfl rfl Try.func37 (by kernel_rfl) rfl #[] rfl (by (try simp only [List.map_toArray, List.map_cons, List.map_nil]); first | done | rfl | (simp only [List.length_drop, List.length_take]; rfl)) ?_; (with_reducible refine (selvedgelaw15_shown.calls k  t195 _ A2.out).mono ?_); rintro e w6 ⟨rfl, hb⟩; refine ⟨_, rfl, ?_⟩; have n0_ := Aside0.mk (below_step (by repeat (first | (with_reducible first | exact HB.out | apply below_alloc | apply pw_below_drewN | apply below_drew1) | exact HB.out)) hb); clear HB; have HB := n0_; clear n0_; (try clear hb); (try clear hb2); (try clear hk); (try clear hi)) | ((with_reducible refine gate_callee (f := 48) rfl ?_); refine goesL_ (some 19) rfl rfl Try.func48 (by kernel_rfl) rfl #[.slice A0 l0.length c0] rfl (by (try simp only [List.map_toArray, List.map_cons, List.map_nil]); first | done | rfl | (simp only [List.length_drop, List.length_take]; rfl)) ?_; (with_reducible refine (selvedgelaw15_runs.calls k _ _ l0 t196 t199 t200 t201 _ ?side1 ?side2 A5.out).mono ?_); (case side1 => repeat (first | exact (Kd.C_below HR0.out HB.out) | (with_reducible refine Kd.C_alloc ?_ _) | (with_reducible refine Kd.C_drewN ?_ _) | (with_reducible refine Kd.C_drew ?_))); (case side2 => exact HC0.out); rintro e w7 ⟨v197, v202, rfl, ho0, ho1, hb⟩; refine ⟨_, rfl, ?_⟩; have n0_ := Aside0.mk (Kd.N_lower (Kd.N_mono (ok' := fun k_ => True) ho0 (fun k_ hk_ => trivial)) (below_size (by repeat (first | (with_reducible first | exact HB.out | apply below_alloc | apply pw_below_drewN | apply below_drew1) | exact HB.out)))); have n1_ := Aside0.mk (Kd.V_lower (Kd.V_mono (ok' := fun k_ => some k_ ≠ (v197 : Value).ownBlock) ho1 (fun k_ hk_ => hk_.2)) (below_size (by repeat (first | (with_reducible first | exact HB.out | apply below_alloc | apply pw_below_drewN | apply below_drew1) | exact HB.out)))); have n2_ := Aside0.mk (below_step (by repeat (first | (with_reducible first | exact HB.out | apply below_alloc | apply pw_below_drewN | apply below_drew1) | exact HB.out)) hb); clear HB; have HO198 := n0_; have HO203 := n1_; have HB := n2_; clear n0_ n1_ n2_; (try clear hb); (try clear hb2); (try clear hk); (try clear hi); (try clear ho0); (try clear ho1)) | ((with_reducible refine gate_dst (N := 5) rfl ?_); (try (refine gate_guard (by rfl) ?_; dsimp only)); refine box_event ?hg (N := 5) ?hd (cs := #[.int .i64 0, .string (⟨#[]⟩ : ByteArray), .slice none 0 0]) (t := 39) ?hr ?_; (case hd => rfl); (case hg => rfl); (case hr => first | (go_simp; done) | (go_simp; rfl)); intro gb204 hg w8 hbox hb; have n0_ := Aside0.mk (Kd.N_below (Kd.N_elderB (by (with_reducible repeat (first | apply Kd.N_alloc | apply Kd.N_drewN | apply Kd.N_drew)); exact HO198.out) gb204 (Nat.le_of_eq hg.symm)) hb); have n1_ := Aside0.mk (Kd.V_below (Kd.V_elderB (by (with_reducible repeat (first | apply Kd.V_alloc | apply Kd.V_drewN | apply Kd.V_drew)); exact HO203.out) gb204 (Nat.le_of_eq hg.symm)) hb); have n2_ := Aside0.mk (below_step (by repeat (first | (with_reducible first | exact HB.out | apply below_alloc | apply pw_below_drewN | apply below_drew1) | exact HB.out)) hb); have n3_ := Aside0.mk (hbox); have n4_ := Aside0.mk ((by rw [hg]; exact (below_size (by repeat (first | (with_reducible first | exact HB.out | apply below_alloc | apply pw_below_drewN | apply below_drew1) | exact HB.out))) : w.heap.size ≤ gb204)); have n5_ := Aside0.mk ((by rw [hg]; exact (below_size (by repeat (first | (with_reducible first | exact HB.out | apply below_alloc | apply pw_below_drewN | apply below_drew1) | exact HB.out))) : w.heap.size ≤ gb204)); clear HO198; clear HO203; clear HB; have HO198 := n0_; have HO203 := n1_; have HB := n2_; have BK204 := n3_; have GW204 := n4_; have GE204 := n5_; clear n0_ n1_ n2_ n3_ n4_ n5_; clear hb hbox hg; have hcz9_0 : w8.cell? ⟨gb204, 0, none⟩ = some (.int .i64 0) := (blk_cell BK204.out 0).trans rfl; have hcz9_1 : w8.cell? ⟨gb204, 1, none⟩ = some (.string (⟨#[]⟩ : ByteArray)) := (blk_cell BK204.out 1).trans rfl; have hcz9_2 : w8.cell? ⟨gb204, 2, none⟩ = some (.slice none 0 0) := (blk_cell BK204.out 2).trans rfl; have hfz9_0 := blk_frozen BK204.out 0; have hfz9_1 := blk_frozen BK204.out 1; have hfz9_2 := blk_frozen BK204.out 2; obtain ⟨Ao10, co10, eo10⟩ := Kd.V_slice HO203.out; subst eo10))
    go_loopg [6, 7] k (fun kq v6 v7 w' => ∃ (x6_1 : List ByteArray) (x7_1 : Int), v7 = .int .i64 x7_1 ∧ Aside0 (selvedgelaw15_CutAll.l0 kq l0 t195 t196 x6_1 x7_1 t199 t200 t201 = some r) ∧ Aside0 (kq ≤ k) ∧ Aside0 (Kd.N k40 40 w' w.heap.size (fun k_ => some k_ ≠ (v6 : Value).ownBlock ∧ k_ ≠ gb204) v197 t196) ∧ Aside0 (Kd.R Kd.string 9 w' w.heap.size (fun _ => True) v6 x6_1) ∧ Aside0 (Kd.V Kd.string 9 w' w.heap.size (fun k_ => some k_ ≠ (v197 : Value).ownBlock ∧ some k_ ≠ (v6 : Value).ownBlock ∧ k_ ≠ gb204) (.slice Ao10 t201.length co10) t201) ∧ Aside0 (w'.heap[gb204]? = some (.cells #[.int .i64 t199, .string t200, (.slice Ao10 t201.length co10)] 39 (0, 0))) ∧ Aside0 (Below w.heap.size w w'))
    case atStart => exact ⟨(([] : List ByteArray)), (0), (by first | rfl | (simp; done) | (simp [*]; done)), H', ⟨Nat.le_refl _⟩, ⟨by (with_reducible repeat (first | apply Kd.N_alloc | apply Kd.N_drewN | apply Kd.N_drew)); exact Kd.N_mono (Kd.N_far (p := ⟨gb204, 2, none⟩) (Kd.N_far (p := ⟨gb204, 1, none⟩) (Kd.N_far (p := ⟨gb204, 0, none⟩) (Kd.N_mono HO198.out (fun k_ hk => (⟨hk, hk.2⟩ : _ ∧ k_ ≠ gb204))) (fun _ hk => hk.2) (.int .i64 t199)) (fun _ hk => hk.2) (.string t200)) (fun _ hk => hk.2) (.slice Ao10 t201.length co10)) (fun _ hk => ⟨(by simp [Value.ownBlock]), hk.1.2⟩)⟩, ⟨by first | exact Kd.R_nil _ _ _ _ _ | exact Kd.N_nil _ _ _ _ _ | exact Kd.V_nil _ _ _ _ _ | exact Kd.Q_nil _ _ _ _ _ | exact Kd.S_nil _ _ _ _ _⟩, ⟨by (with_reducible repeat (first | apply Kd.V_alloc | apply Kd.V_drewN | apply Kd.V_drew)); exact Kd.V_mono (Kd.V_far (p := ⟨gb204, 2, none⟩) (Kd.V_far (p := ⟨gb204, 1, none⟩) (Kd.V_far (p := ⟨gb204, 0, none⟩) (Kd.V_mono HO203.out (fun k_ hk => (⟨hk, hk.2⟩ : _ ∧ k_ ≠ gb204))) (fun _ hk => hk.2) (.int .i64 t199)) (fun _ hk => hk.2) (.string t200)) (fun _ hk => hk.2) (.slice Ao10 t201.length co10)) (fun _ hk => ⟨hk.1.1, ⟨(by simp [Value.ownBlock]), hk.1.2⟩⟩)⟩, ⟨by (with_reducible repeat (first | refine blk_drewN ?_ _ | refine blk_drew ?_ | refine blk_alloc ?_ _)); refine blk_put (cs := #[.int .i64 t199, .string t200, .slice none 0 0]) ?_ 2 _ rfl; (with_reducible repeat (first | refine blk_drewN ?_ _ | refine blk_drew ?_ | refine blk_alloc ?_ _)); refine blk_put (cs := #[.int .i64 t199, .string (⟨#[]⟩ : ByteArray), .slice none 0 0]) ?_ 1 _ rfl; (with_reducible repeat (first | refine blk_drewN ?_ _ | refine blk_drew ?_ | refine blk_alloc ?_ _)); refine blk_put (cs := #[.int .i64 0, .string (⟨#[]⟩ : ByteArray), .slice none 0 0]) ?_ 0 _ rfl; (with_reducible repeat (first | refine blk_drewN ?_ _ | refine blk_drew ?_ | refine blk_alloc ?_ _)); exact BK204.out⟩, ⟨by repeat (first | (with_reducible first | exact HB.out | apply below_alloc | apply pw_below_drewN | apply below_drew1 | refine below_set ?_ GE204.out) | exact HB.out)⟩⟩
    case round =>
      clear H'
      try clear c1
      try clear p2
      try clear c3
      try clear c3b0
      try clear c3b1
      try clear c4
      try clear hcz9_0
      try clear hcz9_1
      try clear hcz9_2
      try clear hfz9_0
      try clear hfz9_1
      try clear hfz9_2
      obtain ⟨x6_1, x7_1, rfl, HA, HK1, HO_4, HO_6, HO_205002, BK204, HB⟩ := hrel
      cases gk with
      | zero => exact absurd HA.out (by simp [selvedgelaw15_CutAll.l0])
      | succ k1 =>
        have H := HA.out
        clear HA
        simp only [selvedgelaw15_CutAll.l0] at H
        by_cases c11 : x7_1 < (l0.length : Int)
        · rw [if_pos c11] at H
          have c11b0 : decide (x7_1 < (l0.length : Int)) = true := decide_eq_true c11
          clear c11
          by_cases c12 : 0 ≤ x7_1
          · rw [if_pos c12] at H
            have c12b0 : decide (0 ≤ x7_1) = true := decide_eq_true c12
            clear c12
            by_cases c13 : x6_1.length + ((rd_T56 l0 x7_1).f0).length < 8796093022208
            · rw [if_pos c13] at H
              have LMc13 := Aside0.mk c13
              clear c13
              obtain ⟨y206, hy206⟩ : ∃ y_ : List ByteArray, y_ = (x6_1 ++ ((rd_T56 l0 x7_1).f0)) := ⟨_, rfl⟩
              replace H : (selvedgelaw15_CutAll.l0 k1 l0 t195 t196 y206 (wrap64 (x7_1 + 1)) t199 t200 t201) = some r := by first | (rw [hy206]; with_reducible exact H) | (have H2_ := (Option.bind_some _ _).symm.trans H; rw [hy206]; with_reducible exact H2_) | (have H2_ := (Option.bind_some _ _).symm.trans H; with_reducible exact H2_) | with_reducible exact H | (rw [hy206]; exact H) | exact H
              have Ny206 := Aside0.mk hy206
              clear hy206
              have H' := Aside0.mk H
              clear H
              have p205 : 0 ≤ (x7_1 : Int) := of_decide_eq_true (by first | (with_reducible assumption) | assumption)
              have q205 : x7_1 < (l0.length : Int) := of_decide_eq_true (by first | (with_reducible assumption) | assumption)
              obtain ⟨ad205, A205_0, c205_0, e205, hx205_0, hx205_1, hl205_0, hi205_0⟩ := at_T56 HR0.out x7_1 p205 q205
              cases e205
              replace hx205_0 := (HB.out.cell (World.block_lt_of_cell? w _ hx205_0)).trans hx205_0
              replace hx205_1 := (HB.out.cell (World.block_lt_of_cell? w _ hx205_1)).trans hx205_1
              have HR205_0 := Aside0.mk hi205_0
              have HC205_0 := Aside0.mk hl205_0
              clear hi205_0 hl205_0
              replace p205 := eq_true p205
              replace q205 := eq_true q205
              go_wp2_with (first | ((with_reducible refine gate_builtin (b := .append) (xs := #[.tmp 28, .tmp 33]) rfl ?_); (try (refine gate_guard (by rfl) ?_; dsimp only)); at_builtin; refine Kd.R_append_rows Kd.string (w0 := w) w.heap.size rfl (.tmp 28) (.tmp 33) 37 9 (.string ⟨#[]⟩) 16 rfl Try.underlying37 info9 rfl (by decide) (by omega) u6 x6_1 ((rd_T56 l0 x7_1).f0) _ _ _ (fun _ => True) (fun _ => False) rfl rfl ?aO ?aR (fun _ _ h => h) (fun _ h => h.elim) ?aF ?aB ?aS ?aL ?_; (case aR => repeat (first | exact (Kd.C_below HR205_0.out HB.out) | (with_reducible refine Kd.C_alloc ?_ _) | (with_reducible refine Kd.C_drewN ?_ _) | (with_reducible refine Kd.C_drew ?_))); (case aB => exact (by repeat (first | (with_reducible first | exact HB.out | apply below_alloc | apply pw_below_drewN | apply below_drew1 | refine below_set ?_ GE204.out) | exact HB.out))); (case aF => exact (fun _ _ => trivial)); (case aO => exact (by (with_reducible repeat (first | apply Kd.R_alloc | apply Kd.R_drewN | apply Kd.R_drew)); exact HO_6.out)); (case aS => exact (below_size (by repeat (first | (with_reducible first | exact HB.out | apply below_alloc | apply pw_below_drewN | apply below_drew1 | refine below_set ?_ GE204.out) | exact HB.out)))); (case aL => have := LMc13.out; omega); intro v207 w14 ho hb hg hat; rw [← Ny206.out] at ho; have n0_ := Aside0.mk (Kd.N_afterv (ok := (fun k_ => k_ ≠ gb204)) (by (with_reducible repeat (first | apply Kd.N_alloc | apply Kd.N_drewN | apply Kd.N_drew)); exact Kd.N_mono HO_4.out (fun _ hk => ⟨hk.2, hk.1⟩)) hg hat); have n1_ := Aside0.mk (Kd.V_afterv (ok := (fun k_ => some k_ ≠ (v197 : Value).ownBlock ∧ k_ ≠ gb204)) (by (with_reducible repeat (first | apply Kd.V_alloc | apply Kd.V_drewN | apply Kd.V_drew)); exact Kd.V_mono HO_205002.out (fun _ hk => ⟨⟨hk.1, hk.2.2⟩, hk.2.1⟩)) hg hat); have n2_ := Aside0.mk (blk_grown (g := gb204) (o := .cells #[.int .i64 t199, .string t200, .slice Ao10 t201.length co10] 39 (0, 0)) (by (with_reducible repeat (first | refine blk_drewN ?_ _ | refine blk_drew ?_ | refine blk_alloc ?_ _)); exact BK204.out) hg (Kd.R_ne HO_6.out BK204.out (by decide))); have n3_ := Aside0.mk (hb); have n4_ := Aside0.mk (ho); clear HO_4; clear HO_205002; clear BK204; clear HB; clear HO_6; have HO_4 := n0_; have HO_205002 := n1_; have BK204 := n2_; have HB := n3_; have HO208 := n4_; clear n0_ n1_ n2_ n3_ n4_; clear ho hb hg hat))
              go_roundg k1
              case measure => have := HK1.out; omega
              case rel => exact ⟨(y206), (wrap64 (x7_1 + 1)), (by first | rfl | (simp; done) | (simp [*]; done)), H', ⟨by have := HK1.out; omega⟩, ⟨by (with_reducible repeat (first | apply Kd.N_alloc | apply Kd.N_drewN | apply Kd.N_drew)); exact Kd.N_mono HO_4.out (fun _ hk => ⟨hk.2, hk.1⟩)⟩, ⟨by (with_reducible repeat (first | apply Kd.R_alloc | apply Kd.R_drewN | apply Kd.R_drew)); exact HO208.out⟩, ⟨by (with_reducible repeat (first | apply Kd.V_alloc | apply Kd.V_drewN | apply Kd.V_drew)); exact Kd.V_mono HO_205002.out (fun _ hk => ⟨hk.1.1, ⟨hk.2, hk.1.2⟩⟩)⟩, ⟨by (with_reducible repeat (first | refine blk_drewN ?_ _ | refine blk_drew ?_ | refine blk_alloc ?_ _)); exact BK204.out⟩, ⟨by repeat (first | (with_reducible first | exact HB.out | apply below_alloc | apply pw_below_drewN | apply below_drew1 | refine below_set ?_ GE204.out) | exact HB.out)⟩⟩
            · rw [if_neg c13] at H
              exact absurd H (by simp)
          · rw [if_neg c12] at H
            exact absurd H (by simp)
        · rw [if_neg c11] at H
          have c11b0 : decide (x7_1 < (l0.length : Int)) = false := decide_eq_false c11
          clear c11
          have H' := Aside0.mk H
          clear H
          go_wp2
          go_loopg [8, 9] k1 (fun kq v8 v9 w' => ∃ (x8_2 : List ByteArray) (x9_2 : Int), v9 = .int .i64 x9_2 ∧ Aside0 (selvedgelaw15_CutAll.l1 kq t195 t196 x6_1 x8_2 x9_2 t199 t200 t201 = some r) ∧ Aside0 (kq ≤ k1) ∧ Aside0 (Kd.N k40 40 w' w.heap.size (fun k_ => some k_ ≠ (u6 : Value).ownBlock ∧ some k_ ≠ (v8 : Value).ownBlock ∧ k_ ≠ gb204) v197 t196) ∧ Aside0 (Kd.R Kd.string 9 w' w.heap.size (fun k_ => some k_ ≠ (v8 : Value).ownBlock) u6 x6_1) ∧ Aside0 (Kd.R Kd.string 9 w' w.heap.size (fun k_ => some k_ ≠ (u6 : Value).ownBlock) v8 x8_2) ∧ Aside0 (Kd.V Kd.string 9 w' w.heap.size (fun k_ => some k_ ≠ (v197 : Value).ownBlock ∧ some k_ ≠ (u6 : Value).ownBlock ∧ some k_ ≠ (v8 : Value).ownBlock ∧ k_ ≠ gb204) (.slice Ao10 t201.length co10) t201) ∧ Aside0 (w'.heap[gb204]? = some (.cells #[.int .i64 t199, .string t200, (.slice Ao10 t201.length co10)] 39 (0, 0))) ∧ Aside0 (Below w.heap.size w w'))
          case atStart => exact ⟨(([] : List ByteArray)), (0), (by first | rfl | (simp; done) | (simp [*]; done)), H', ⟨Nat.le_refl _⟩, ⟨by (with_reducible repeat (first | apply Kd.N_alloc | apply Kd.N_drewN | apply Kd.N_drew)); exact Kd.N_mono HO_4.out (fun _ hk => ⟨hk.1, ⟨(by simp [Value.ownBlock]), hk.2⟩⟩)⟩, ⟨by (with_reducible repeat (first | apply Kd.R_alloc | apply Kd.R_drewN | apply Kd.R_drew)); exact Kd.R_mono HO_6.out (fun _ hk => (by simp [Value.ownBlock]))⟩, ⟨by first | exact Kd.R_nil _ _ _ _ _ | exact Kd.N_nil _ _ _ _ _ | exact Kd.V_nil _ _ _ _ _ | exact Kd.Q_nil _ _ _ _ _ | exact Kd.S_nil _ _ _ _ _⟩, ⟨by (with_reducible repeat (first | apply Kd.V_alloc | apply Kd.V_drewN | apply Kd.V_drew)); exact Kd.V_mono HO_205002.out (fun _ hk => ⟨hk.1, ⟨hk.2.1, ⟨(by simp [Value.ownBlock]), hk.2.2⟩⟩⟩)⟩, ⟨by (with_reducible repeat (first | refine blk_drewN ?_ _ | refine blk_drew ?_ | refine blk_alloc ?_ _)); exact BK204.out⟩, ⟨by repeat (first | (with_reducible first | exact HB.out | apply below_alloc | apply pw_below_drewN | apply below_drew1 | refine below_set ?_ GE204.out) | exact HB.out)⟩⟩
          case round =>
            clear H'
            try clear c1
            try clear c2
            try clear p2
            try clear q2
            try clear hx2
            try clear c3
            try clear c3b0
            try clear c3b1
            try clear c4
            try clear p6
            try clear c11
            try clear c11b0
            try clear c12
            try clear c12b0
            try clear c13
            try clear hcz9_0
            try clear hcz9_1
            try clear hcz9_2
            try clear hfz9_0
            try clear hfz9_1
            try clear hfz9_2
            try clear hx205_0
            try clear hx205_1
            try clear p2
            try clear p205
            try clear q205
            obtain ⟨x8_2, x9_2, rfl, HA, HK2, HO_4, HO_6, HO_8, HO_205002, BK204, HB⟩ := hrel
            cases gk with
            | zero => exact absurd HA.out (by simp [selvedgelaw15_CutAll.l1])
            | succ k2 =>
              have H := HA.out
              clear HA
              simp only [selvedgelaw15_CutAll.l1] at H
              by_cases c15 : x9_2 < (t196.length : Int)
              · rw [if_pos c15] at H
                have c15b0 : decide (x9_2 < (t196.length : Int)) = true := decide_eq_true c15
                clear c15
                have HC16 := Aside0.mk H
                clear H
                obtain ⟨Ao17, co17, eo17⟩ := Kd.N_slice HO_4.out
                subst eo17
                go_upto_region 14 with (fail)
                go_cut [56] (fun v56 wc => ∃ (kq : Nat) (x56_15 : Bool), v56 = .bool x56_15 ∧ Aside0 (selvedgelaw15_CutAll.j2 kq t195 t196 x6_1 x8_2 x9_2 x56_15 t199 t200 t201 = some r) ∧ Aside0 (kq ≤ k2) ∧ Aside0 (Kd.N k40 40 wc w.heap.size (fun k_ => some k_ ≠ (u6 : Value).ownBlock ∧ some k_ ≠ (u8 : Value).ownBlock ∧ k_ ≠ gb204) (.slice Ao17 t196.length co17) t196) ∧ Aside0 (Kd.R Kd.string 9 wc w.heap.size (fun k_ => some k_ ≠ (u8 : Value).ownBlock) u6 x6_1) ∧ Aside0 (Kd.R Kd.string 9 wc w.heap.size (fun k_ => some k_ ≠ (u6 : Value).ownBlock) u8 x8_2) ∧ Aside0 (Kd.V Kd.string 9 wc w.heap.size (fun k_ => some k_ ≠ ((.slice Ao17 t196.length co17) : Value).ownBlock ∧ some k_ ≠ (u6 : Value).ownBlock ∧ some k_ ≠ (u8 : Value).ownBlock ∧ k_ ≠ gb204) (.slice Ao10 t201.length co10) t201) ∧ Aside0 (wc.heap[gb204]? = some (.cells #[.int .i64 t199, .string t200, (.slice Ao10 t201.length co10)] 39 (0, 0))) ∧ Aside0 (Below w.heap.size w wc))
                case first =>
                  have H := HC16.out
                  clear HC16
                  by_cases c18 : 0 ≤ x9_2
                  · rw [if_pos c18] at H
                    have c18b0 : decide (0 ≤ x9_2) = true := decide_eq_true c18
                    clear c18
                    (first | rw [c18b0] | (simp only [i64_w, i32_w]; rw [c18b0]) | skip)
                    by_cases c19 : (((rd_T40 t196 x9_2).f2).length : Int) < 1
                    · rw [if_pos c19] at H
                      have c19b0 : decide ((((rd_T40 t196 x9_2).f2).length : Int) < 1) = true := decide_eq_true c19
                      have c19b1 : decide (((rd_T40 t196 x9_2).f2).length < 1) = true := decide_eq_true (by omega)
                      clear c19
                      have H' := Aside0.mk H
                      clear H
                      have p214 : 0 ≤ (x9_2 : Int) := of_decide_eq_true (by first | (with_reducible assumption) | assumption)
                      have q214 : x9_2 < (t196.length : Int) := of_decide_eq_true (by first | (with_reducible assumption) | assumption)
                      obtain ⟨ad214, A214_2, c214_2, e214, hx214_0, hx214_1, hx214_2, hl214_2, hi214_2⟩ := at_T40 (Kd.N_reads' HO_4.out).2.2 x9_2 p214 q214
                      cases e214
                      obtain ⟨ce214, hce214, hMe214, hcc214⟩ := Kd.N_get HO_4.out z40 x9_2 p214 (by first | exact q214 | exact of_decide_eq_true (by first | (with_reducible assumption) | assumption) | (have e_ := (Kd.N_reads' HO_4.out).1; omega))
                      obtain ⟨ua214_2, uc214_2, rfl, ul214_2, ge214_2⟩ := k40_openF hMe214
                      have hv214_2 := hcc214 2 _ rfl
                      rw [add_field _ _ 2 (by omega)] at hv214_2
                      replace hv214_2 := Option.some.inj (hv214_2.symm.trans hx214_2)
                      injection hv214_2 with hva_ hvn_ hvc_
                      rw [hva_] at ge214_2
                      rw [hvc_] at ul214_2
                      have HL214_2 := Aside0.mk (show Kd.V Kd.string 9 _ w.heap.size _ _ ((rd_T40 t196 x9_2).f2) from Kd.V_mk ul214_2 ge214_2)
                      clear hva_ hvn_ hvc_ ge214_2 ul214_2
                      clear hcc214 hce214
                      have HR214_2 := Aside0.mk hi214_2
                      have HC214_2 := Aside0.mk hl214_2
                      clear hi214_2 hl214_2
                      replace p214 := eq_true p214
                      replace q214 := eq_true q214
                      go_wp2
                      go_meet
                      case rel => exact ⟨_, (true), (by first | rfl | (simp; done) | (simp [*]; done)), H', ⟨by have := HK1.out; have := HK2.out; first | omega | exact Nat.le_refl _⟩, ⟨by (with_reducible repeat (first | apply Kd.N_alloc | apply Kd.N_drewN | apply Kd.N_drew)); exact HO_4.out⟩, ⟨by (with_reducible repeat (first | apply Kd.R_alloc | apply Kd.R_drewN | apply Kd.R_drew)); exact HO_6.out⟩, ⟨by (with_reducible repeat (first | apply Kd.R_alloc | apply Kd.R_drewN | apply Kd.R_drew)); exact HO_8.out⟩, ⟨by (with_reducible repeat (first | apply Kd.V_alloc | apply Kd.V_drewN | apply Kd.V_drew)); exact HO_205002.out⟩, ⟨by (with_reducible repeat (first | refine blk_drewN ?_ _ | refine blk_drew ?_ | refine blk_alloc ?_ _)); exact BK204.out⟩, ⟨by repeat (first | (with_reducible first | exact HB.out | apply below_alloc | apply pw_below_drewN | apply below_drew1 | refine below_set ?_ GE204.out) | exact HB.out)⟩⟩
                    · rw [if_neg c19] at H
                      have c19b0 : decide ((((rd_T40 t196 x9_2).f2).length : Int) < 1) = false := decide_eq_false c19
                      have c19b1 : decide (((rd_T40 t196 x9_2).f2).length < 1) = false := decide_eq_false (by omega)
                      clear c19
                      have H' := Aside0.mk H
                      clear H
                      have p214 : 0 ≤ (x9_2 : Int) := of_decide_eq_true (by first | (with_reducible assumption) | assumption)
                      have q214 : x9_2 < (t196.length : Int) := of_decide_eq_true (by first | (with_reducible assumption) | assumption)
                      obtain ⟨ad214, A214_2, c214_2, e214, hx214_0, hx214_1, hx214_2, hl214_2, hi214_2⟩ := at_T40 (Kd.N_reads' HO_4.out).2.2 x9_2 p214 q214
                      cases e214
                      obtain ⟨ce214, hce214, hMe214, hcc214⟩ := Kd.N_get HO_4.out z40 x9_2 p214 (by first | exact q214 | exact of_decide_eq_true (by first | (with_reducible assumption) | assumption) | (have e_ := (Kd.N_reads' HO_4.out).1; omega))
                      obtain ⟨ua214_2, uc214_2, rfl, ul214_2, ge214_2⟩ := k40_openF hMe214
                      have hv214_2 := hcc214 2 _ rfl
                      rw [add_field _ _ 2 (by omega)] at hv214_2
                      replace hv214_2 := Option.some.inj (hv214_2.symm.trans hx214_2)
                      injection hv214_2 with hva_ hvn_ hvc_
                      rw [hva_] at ge214_2
                      rw [hvc_] at ul214_2
                      have HL214_2 := Aside0.mk (show Kd.V Kd.string 9 _ w.heap.size _ _ ((rd_T40 t196 x9_2).f2) from Kd.V_mk ul214_2 ge214_2)
                      clear hva_ hvn_ hvc_ ge214_2 ul214_2
                      clear hcc214 hce214
                      have HR214_2 := Aside0.mk hi214_2
                      have HC214_2 := Aside0.mk hl214_2
                      clear hi214_2 hl214_2
                      replace p214 := eq_true p214
                      replace q214 := eq_true q214
                      have p215 : 0 ≤ (x9_2 : Int) := of_decide_eq_true (by first | (with_reducible assumption) | assumption)
                      have q215 : x9_2 < (t196.length : Int) := of_decide_eq_true (by first | (with_reducible assumption) | assumption)
                      obtain ⟨ad215, A215_2, c215_2, e215, hx215_0, hx215_1, hx215_2, hl215_2, hi215_2⟩ := at_T40 (Kd.N_reads' HO_4.out).2.2 x9_2 p215 q215
                      obtain rfl : ad214 = ad215 := (by injection e215)
                      obtain ⟨ce215, hce215, hMe215, hcc215⟩ := Kd.N_get HO_4.out z40 x9_2 p215 (by first | exact q215 | exact of_decide_eq_true (by first | (with_reducible assumption) | assumption) | (have e_ := (Kd.N_reads' HO_4.out).1; omega))
                      obtain ⟨ua215_2, uc215_2, rfl, ul215_2, ge215_2⟩ := k40_openF hMe215
                      have hv215_2 := hcc215 2 _ rfl
                      rw [add_field _ _ 2 (by omega)] at hv215_2
                      replace hv215_2 := Option.some.inj (hv215_2.symm.trans hx215_2)
                      injection hv215_2 with hva_ hvn_ hvc_
                      rw [hva_] at ge215_2
                      rw [hvc_] at ul215_2
                      have HL215_2 := Aside0.mk (show Kd.V Kd.string 9 _ w.heap.size _ _ ((rd_T40 t196 x9_2).f2) from Kd.V_mk ul215_2 ge215_2)
                      clear hva_ hvn_ hvc_ ge215_2 ul215_2
                      clear hcc215 hce215
                      have HR215_2 := Aside0.mk hi215_2
                      have HC215_2 := Aside0.mk hl215_2
                      clear hi215_2 hl215_2
                      replace p215 := eq_true p215
                      replace q215 := eq_true q215
                      have ea_ := Option.some.inj (hx214_2.symm.trans hx215_2)
                      injection ea_ with ea_ en_ ec_
                      subst ea_
                      subst ec_
                      clear en_
                      go_wp2
                      go_meet
                      case rel => exact ⟨_, (decide ((((rd_T40 t196 x9_2).f2).length : Int) > 6)), (by first | rfl | (simp; done) | (simp [*]; done)), H', ⟨by have := HK1.out; have := HK2.out; first | omega | exact Nat.le_refl _⟩, ⟨by (with_reducible repeat (first | apply Kd.N_alloc | apply Kd.N_drewN | apply Kd.N_drew)); exact HO_4.out⟩, ⟨by (with_reducible repeat (first | apply Kd.R_alloc | apply Kd.R_drewN | apply Kd.R_drew)); exact HO_6.out⟩, ⟨by (with_reducible repeat (first | apply Kd.R_alloc | apply Kd.R_drewN | apply Kd.R_drew)); exact HO_8.out⟩, ⟨by (with_reducible repeat (first | apply Kd.V_alloc | apply Kd.V_drewN | apply Kd.V_drew)); exact HO_205002.out⟩, ⟨by (with_reducible repeat (first | refine blk_drewN ?_ _ | refine blk_drew ?_ | refine blk_alloc ?_ _)); exact BK204.out⟩, ⟨by repeat (first | (with_reducible first | exact HB.out | apply below_alloc | apply pw_below_drewN | apply below_drew1 | refine below_set ?_ GE204.out) | exact HB.out)⟩⟩
                  · rw [if_neg c18] at H
                    exact absurd H (by simp)
                case rest =>
                  clear HC16
                  try clear c1
                  try clear c2
                  try clear p2
                  try clear q2
                  try clear hx2
                  try clear c3
                  try clear c3b0
                  try clear c3b1
                  try clear c4
                  try clear p6
                  try clear c11
                  try clear c11b0
                  try clear c12
                  try clear c12b0
                  try clear c13
                  try clear c15
                  try clear c15b0
                  try clear c18
                  try clear c18b0
                  try clear c19
                  try clear c19b0
                  try clear c19b1
                  try clear hcz9_0
                  try clear hcz9_1
                  try clear hcz9_2
                  try clear hfz9_0
                  try clear hfz9_1
                  try clear hfz9_2
                  try clear hx205_0
                  try clear hx205_1
                  try clear hx214_0
                  try clear hx214_1
                  try clear hx214_2
                  try clear hx215_0
                  try clear hx215_1
                  try clear hx215_2
                  try clear p2
                  try clear p205
                  try clear p214
                  try clear p215
                  try clear p6
                  try clear q2
                  try clear q205
                  try clear q214
                  try clear q215
                  obtain ⟨kq, x56_15, rfl, HA, HJ15, HO_4, HO_6, HO_8, HO_205002, BK204, HB⟩ := hcut
                  cases kq with
                  | zero => exact absurd HA.out (by simp [selvedgelaw15_CutAll.j2])
                  | succ kj15 =>
                    have H := HA.out
                    clear HA
                    simp only [selvedgelaw15_CutAll.j2] at H
                    by_cases c20 : x56_15 = true
                    · subst c20
                      have H1 : (some false) = some r := by rw [if_pos rfl] at H; exact H
                      clear H
                      have H := H1
                      clear H1
                      obtain rfl := Option.some.inj H
                      go_wp2
                      go_ret
                      exact ⟨by first | rfl | (simp [errW_none, errW_some] <;> rfl) | (simp [*, errW_none, errW_some] <;> rfl), by repeat (first | (with_reducible first | exact HB.out | apply below_alloc | apply pw_below_drewN | apply below_drew1 | refine below_set ?_ GE204.out) | exact HB.out)⟩
                    · replace c20 := Bool.eq_false_iff.mpr c20
                      subst c20
                      have H1 : (selvedgelaw15_CutAll.l2 kj15 t195 t196 x6_1 x8_2 x9_2 0 0 t199 t200 t201) = some r := by rw [if_neg (show ¬ (false = true) by decide)] at H; exact H
                      clear H
                      have H := H1
                      clear H1
                      have H' := Aside0.mk H
                      clear H
                      go_wp2
                      go_loopg [10, 11] kj15 (fun kq v10 v11 w' => ∃ (x10_4 : Int) (x11_4 : Int), v10 = .int .i64 x10_4 ∧ v11 = .int .i64 x11_4 ∧ Aside0 (selvedgelaw15_CutAll.l2 kq t195 t196 x6_1 x8_2 x9_2 x10_4 x11_4 t199 t200 t201 = some r) ∧ Aside0 (kq ≤ kj15) ∧ Aside0 (Kd.N k40 40 w' w.heap.size (fun k_ => some k_ ≠ (u6 : Value).ownBlock ∧ some k_ ≠ (u8 : Value).ownBlock ∧ k_ ≠ gb204) (.slice Ao17 t196.length co17) t196) ∧ Aside0 (Kd.R Kd.string 9 w' w.heap.size (fun k_ => some k_ ≠ (u8 : Value).ownBlock) u6 x6_1) ∧ Aside0 (Kd.R Kd.string 9 w' w.heap.size (fun k_ => some k_ ≠ (u6 : Value).ownBlock) u8 x8_2) ∧ Aside0 (Kd.V Kd.string 9 w' w.heap.size (fun k_ => some k_ ≠ ((.slice Ao17 t196.length co17) : Value).ownBlock ∧ some k_ ≠ (u6 : Value).ownBlock ∧ some k_ ≠ (u8 : Value).ownBlock ∧ k_ ≠ gb204) (.slice Ao10 t201.length co10) t201) ∧ Aside0 (w'.heap[gb204]? = some (.cells #[.int .i64 t199, .string t200, (.slice Ao10 t201.length co10)] 39 (0, 0))) ∧ Aside0 (Below w.heap.size w w'))
                      case atStart => exact ⟨(0), (0), (by first | rfl | (simp; done) | (simp [*]; done)), (by first | rfl | (simp; done) | (simp [*]; done)), H', ⟨Nat.le_refl _⟩, ⟨by (with_reducible repeat (first | apply Kd.N_alloc | apply Kd.N_drewN | apply Kd.N_drew)); exact HO_4.out⟩, ⟨by (with_reducible repeat (first | apply Kd.R_alloc | apply Kd.R_drewN | apply Kd.R_drew)); exact HO_6.out⟩, ⟨by (with_reducible repeat (first | apply Kd.R_alloc | apply Kd.R_drewN | apply Kd.R_drew)); exact HO_8.out⟩, ⟨by (with_reducible repeat (first | apply Kd.V_alloc | apply Kd.V_drewN | apply Kd.V_drew)); exact HO_205002.out⟩, ⟨by (with_reducible repeat (first | refine blk_drewN ?_ _ | refine blk_drew ?_ | refine blk_alloc ?_ _)); exact BK204.out⟩, ⟨by repeat (first | (with_reducible first | exact HB.out | apply below_alloc | apply pw_below_drewN | apply below_drew1 | refine below_set ?_ GE204.out) | exact HB.out)⟩⟩
                      case round =>
                        clear H'
                        try clear c1
                        try clear c2
                        try clear p2
                        try clear q2
                        try clear hx2
                        try clear c3
                        try clear c3b0
                        try clear c3b1
                        try clear c4
                        try clear p6
                        try clear c11
                        try clear c11b0
                        try clear c12
                        try clear c12b0
                        try clear c13
                        try clear c15
                        try clear c15b0
                        try clear c18
                        try clear c18b0
                        try clear c19
                        try clear c19b0
                        try clear c19b1
                        try clear c20
                        try clear p20
                        try clear q20
                        try clear hx20
                        try clear hcz9_0
                        try clear hcz9_1
                        try clear hcz9_2
                        try clear hfz9_0
                        try clear hfz9_1
                        try clear hfz9_2
                        try clear hx205_0
                        try clear hx205_1
                        try clear hx214_0
                        try clear hx214_1
                        try clear hx214_2
                        try clear hx215_0
                        try clear hx215_1
                        try clear hx215_2
                        try clear p2
                        try clear p205
                        try clear p214
                        try clear p215
                        try clear p6
                        try clear q2
                        try clear q205
                        try clear q214
                        try clear q215
                        obtain ⟨x10_4, x11_4, rfl, rfl, HA, HK4, HO_4, HO_6, HO_8, HO_205002, BK204, HB⟩ := hrel
                        cases gk with
                        | zero => exact absurd HA.out (by simp [selvedgelaw15_CutAll.l2])
                        | succ k4 =>
                          have H := HA.out
                          clear HA
                          simp only [selvedgelaw15_CutAll.l2] at H
                          by_cases c21 : 0 ≤ x9_2
                          · rw [if_pos c21] at H
                            have c21b0 : decide (0 ≤ x9_2) = true := decide_eq_true c21
                            clear c21
                            by_cases c22 : x9_2 < (t196.length : Int)
                            · rw [if_pos c22] at H
                              have c22b0 : decide (x9_2 < (t196.length : Int)) = true := decide_eq_true c22
                              clear c22
                              by_cases c23 : x11_4 < (((rd_T40 t196 x9_2).f2).length : Int)
                              · rw [if_pos c23] at H
                                have c23b0 : decide (x11_4 < (((rd_T40 t196 x9_2).f2).length : Int)) = true := decide_eq_true c23
                                clear c23
                                by_cases c24 : 0 ≤ x11_4
                                · rw [if_pos c24] at H
                                  have c24b0 : decide (0 ≤ x11_4) = true := decide_eq_true c24
                                  clear c24
                                  by_cases c25 : ((rdOf ByteArray.empty ((rd_T40 t196 x9_2).f2) x11_4).size : Int) > 1000
                                  · rw [if_pos c25] at H
                                    have c25b0 : decide (1000 < ((rdOf ByteArray.empty ((rd_T40 t196 x9_2).f2) x11_4).size : Int)) = true := decide_eq_true c25
                                    have c25b1 : decide (1000 < (rdOf ByteArray.empty ((rd_T40 t196 x9_2).f2) x11_4).size) = true := decide_eq_true (by omega)
                                    clear c25
                                    obtain rfl := Option.some.inj H
                                    have p216 : 0 ≤ (x9_2 : Int) := of_decide_eq_true (by first | (with_reducible assumption) | assumption)
                                    have q216 : x9_2 < (t196.length : Int) := of_decide_eq_true (by first | (with_reducible assumption) | assumption)
                                    obtain ⟨ad216, A216_2, c216_2, e216, hx216_0, hx216_1, hx216_2, hl216_2, hi216_2⟩ := at_T40 (Kd.N_reads' HO_4.out).2.2 x9_2 p216 q216
                                    cases e216
                                    obtain ⟨ce216, hce216, hMe216, hcc216⟩ := Kd.N_get HO_4.out z40 x9_2 p216 (by first | exact q216 | exact of_decide_eq_true (by first | (with_reducible assumption) | assumption) | (have e_ := (Kd.N_reads' HO_4.out).1; omega))
                                    obtain ⟨ua216_2, uc216_2, rfl, ul216_2, ge216_2⟩ := k40_openF hMe216
                                    have hv216_2 := hcc216 2 _ rfl
                                    rw [add_field _ _ 2 (by omega)] at hv216_2
                                    replace hv216_2 := Option.some.inj (hv216_2.symm.trans hx216_2)
                                    injection hv216_2 with hva_ hvn_ hvc_
                                    rw [hva_] at ge216_2
                                    rw [hvc_] at ul216_2
                                    have HL216_2 := Aside0.mk (show Kd.V Kd.string 9 _ w.heap.size _ _ ((rd_T40 t196 x9_2).f2) from Kd.V_mk ul216_2 ge216_2)
                                    clear hva_ hvn_ hvc_ ge216_2 ul216_2
                                    clear hcc216 hce216
                                    have HR216_2 := Aside0.mk hi216_2
                                    have HC216_2 := Aside0.mk hl216_2
                                    clear hi216_2 hl216_2
                                    replace p216 := eq_true p216
                                    replace q216 := eq_true q216
                                    have p217 : 0 ≤ (x9_2 : Int) := of_decide_eq_true (by first | (with_reducible assumption) | assumption)
                                    have q217 : x9_2 < (t196.length : Int) := of_decide_eq_true (by first | (with_reducible assumption) | assumption)
                                    obtain ⟨ad217, A217_2, c217_2, e217, hx217_0, hx217_1, hx217_2, hl217_2, hi217_2⟩ := at_T40 (Kd.N_reads' HO_4.out).2.2 x9_2 p217 q217
                                    obtain rfl : ad216 = ad217 := (by injection e217)
                                    obtain ⟨ce217, hce217, hMe217, hcc217⟩ := Kd.N_get HO_4.out z40 x9_2 p217 (by first | exact q217 | exact of_decide_eq_true (by first | (with_reducible assumption) | assumption) | (have e_ := (Kd.N_reads' HO_4.out).1; omega))
                                    obtain ⟨ua217_2, uc217_2, rfl, ul217_2, ge217_2⟩ := k40_openF hMe217
                                    have hv217_2 := hcc217 2 _ rfl
                                    rw [add_field _ _ 2 (by omega)] at hv217_2
                                    replace hv217_2 := Option.some.inj (hv217_2.symm.trans hx217_2)
                                    injection hv217_2 with hva_ hvn_ hvc_
                                    rw [hva_] at ge217_2
                                    rw [hvc_] at ul217_2
                                    have HL217_2 := Aside0.mk (show Kd.V Kd.string 9 _ w.heap.size _ _ ((rd_T40 t196 x9_2).f2) from Kd.V_mk ul217_2 ge217_2)
                                    clear hva_ hvn_ hvc_ ge217_2 ul217_2
                                    clear hcc217 hce217
                                    have HR217_2 := Aside0.mk hi217_2
                                    have HC217_2 := Aside0.mk hl217_2
                                    clear hi217_2 hl217_2
                                    replace p217 := eq_true p217
                                    replace q217 := eq_true q217
                                    have ea_ := Option.some.inj (hx216_2.symm.trans hx217_2)
                                    injection ea_ with ea_ en_ ec_
                                    subst ea_
                                    subst ec_
                                    clear en_
                                    have p218 : 0 ≤ (x11_4 : Int) := of_decide_eq_true (by first | (with_reducible assumption) | assumption)
                                    have q218 : x11_4 < (((rd_T40 t196 x9_2).f2).length : Int) := of_decide_eq_true (by first | (with_reducible assumption) | assumption)
                                    obtain ⟨ad218, e218, hx218_0⟩ := Kd.at_string (by repeat (first | (with_reducible exact HR217_2.out) | (with_reducible refine Kd.C_alloc ?_ _) | (with_reducible refine Kd.C_drewN ?_ _) | (with_reducible refine Kd.C_drew ?_) | exact HR217_2.out)) x11_4 p218 q218
                                    cases e218
                                    replace p218 := eq_true p218
                                    replace q218 := eq_true q218
                                    go_wp2
                                    go_ret
                                    exact ⟨by first | rfl | (simp [errW_none, errW_some] <;> rfl) | (simp [*, errW_none, errW_some] <;> rfl), by repeat (first | (with_reducible first | exact HB.out | apply below_alloc | apply pw_below_drewN | apply below_drew1 | refine below_set ?_ GE204.out) | exact HB.out)⟩
                                  · rw [if_neg c25] at H
                                    have c25b0 : decide (1000 < ((rdOf ByteArray.empty ((rd_T40 t196 x9_2).f2) x11_4).size : Int)) = false := decide_eq_false c25
                                    have c25b1 : decide (1000 < (rdOf ByteArray.empty ((rd_T40 t196 x9_2).f2) x11_4).size) = false := decide_eq_false (by omega)
                                    clear c25
                                    have H' := Aside0.mk H
                                    clear H
                                    have p216 : 0 ≤ (x9_2 : Int) := of_decide_eq_true (by first | (with_reducible assumption) | assumption)
                                    have q216 : x9_2 < (t196.length : Int) := of_decide_eq_true (by first | (with_reducible assumption) | assumption)
                                    obtain ⟨ad216, A216_2, c216_2, e216, hx216_0, hx216_1, hx216_2, hl216_2, hi216_2⟩ := at_T40 (Kd.N_reads' HO_4.out).2.2 x9_2 p216 q216
                                    cases e216
                                    obtain ⟨ce216, hce216, hMe216, hcc216⟩ := Kd.N_get HO_4.out z40 x9_2 p216 (by first | exact q216 | exact of_decide_eq_true (by first | (with_reducible assumption) | assumption) | (have e_ := (Kd.N_reads' HO_4.out).1; omega))
                                    obtain ⟨ua216_2, uc216_2, rfl, ul216_2, ge216_2⟩ := k40_openF hMe216
                                    have hv216_2 := hcc216 2 _ rfl
                                    rw [add_field _ _ 2 (by omega)] at hv216_2
                                    replace hv216_2 := Option.some.inj (hv216_2.symm.trans hx216_2)
                                    injection hv216_2 with hva_ hvn_ hvc_
                                    rw [hva_] at ge216_2
                                    rw [hvc_] at ul216_2
                                    have HL216_2 := Aside0.mk (show Kd.V Kd.string 9 _ w.heap.size _ _ ((rd_T40 t196 x9_2).f2) from Kd.V_mk ul216_2 ge216_2)
                                    clear hva_ hvn_ hvc_ ge216_2 ul216_2
                                    clear hcc216 hce216
                                    have HR216_2 := Aside0.mk hi216_2
                                    have HC216_2 := Aside0.mk hl216_2
                                    clear hi216_2 hl216_2
                                    replace p216 := eq_true p216
                                    replace q216 := eq_true q216
                                    have p217 : 0 ≤ (x9_2 : Int) := of_decide_eq_true (by first | (with_reducible assumption) | assumption)
                                    have q217 : x9_2 < (t196.length : Int) := of_decide_eq_true (by first | (with_reducible assumption) | assumption)
                                    obtain ⟨ad217, A217_2, c217_2, e217, hx217_0, hx217_1, hx217_2, hl217_2, hi217_2⟩ := at_T40 (Kd.N_reads' HO_4.out).2.2 x9_2 p217 q217
                                    obtain rfl : ad216 = ad217 := (by injection e217)
                                    obtain ⟨ce217, hce217, hMe217, hcc217⟩ := Kd.N_get HO_4.out z40 x9_2 p217 (by first | exact q217 | exact of_decide_eq_true (by first | (with_reducible assumption) | assumption) | (have e_ := (Kd.N_reads' HO_4.out).1; omega))
                                    obtain ⟨ua217_2, uc217_2, rfl, ul217_2, ge217_2⟩ := k40_openF hMe217
                                    have hv217_2 := hcc217 2 _ rfl
                                    rw [add_field _ _ 2 (by omega)] at hv217_2
                                    replace hv217_2 := Option.some.inj (hv217_2.symm.trans hx217_2)
                                    injection hv217_2 with hva_ hvn_ hvc_
                                    rw [hva_] at ge217_2
                                    rw [hvc_] at ul217_2
                                    have HL217_2 := Aside0.mk (show Kd.V Kd.string 9 _ w.heap.size _ _ ((rd_T40 t196 x9_2).f2) from Kd.V_mk ul217_2 ge217_2)
                                    clear hva_ hvn_ hvc_ ge217_2 ul217_2
                                    clear hcc217 hce217
                                    have HR217_2 := Aside0.mk hi217_2
                                    have HC217_2 := Aside0.mk hl217_2
                                    clear hi217_2 hl217_2
                                    replace p217 := eq_true p217
                                    replace q217 := eq_true q217
                                    have ea_ := Option.some.inj (hx216_2.symm.trans hx217_2)
                                    injection ea_ with ea_ en_ ec_
                                    subst ea_
                                    subst ec_
                                    clear en_
                                    have p218 : 0 ≤ (x11_4 : Int) := of_decide_eq_true (by first | (with_reducible assumption) | assumption)
                                    have q218 : x11_4 < (((rd_T40 t196 x9_2).f2).length : Int) := of_decide_eq_true (by first | (with_reducible assumption) | assumption)
                                    obtain ⟨ad218, e218, hx218_0⟩ := Kd.at_string (by repeat (first | (with_reducible exact HR217_2.out) | (with_reducible refine Kd.C_alloc ?_ _) | (with_reducible refine Kd.C_drewN ?_ _) | (with_reducible refine Kd.C_drew ?_) | exact HR217_2.out)) x11_4 p218 q218
                                    cases e218
                                    replace p218 := eq_true p218
                                    replace q218 := eq_true q218
                                    have p219 : 0 ≤ (x9_2 : Int) := of_decide_eq_true (by first | (with_reducible assumption) | assumption)
                                    have q219 : x9_2 < (t196.length : Int) := of_decide_eq_true (by first | (with_reducible assumption) | assumption)
                                    obtain ⟨ad219, A219_2, c219_2, e219, hx219_0, hx219_1, hx219_2, hl219_2, hi219_2⟩ := at_T40 (Kd.N_reads' HO_4.out).2.2 x9_2 p219 q219
                                    obtain rfl : ad216 = ad219 := (by injection e219)
                                    obtain ⟨ce219, hce219, hMe219, hcc219⟩ := Kd.N_get HO_4.out z40 x9_2 p219 (by first | exact q219 | exact of_decide_eq_true (by first | (with_reducible assumption) | assumption) | (have e_ := (Kd.N_reads' HO_4.out).1; omega))
                                    obtain ⟨ua219_2, uc219_2, rfl, ul219_2, ge219_2⟩ := k40_openF hMe219
                                    have hv219_2 := hcc219 2 _ rfl
                                    rw [add_field _ _ 2 (by omega)] at hv219_2
                                    replace hv219_2 := Option.some.inj (hv219_2.symm.trans hx219_2)
                                    injection hv219_2 with hva_ hvn_ hvc_
                                    rw [hva_] at ge219_2
                                    rw [hvc_] at ul219_2
                                    have HL219_2 := Aside0.mk (show Kd.V Kd.string 9 _ w.heap.size _ _ ((rd_T40 t196 x9_2).f2) from Kd.V_mk ul219_2 ge219_2)
                                    clear hva_ hvn_ hvc_ ge219_2 ul219_2
                                    clear hcc219 hce219
                                    have HR219_2 := Aside0.mk hi219_2
                                    have HC219_2 := Aside0.mk hl219_2
                                    clear hi219_2 hl219_2
                                    replace p219 := eq_true p219
                                    replace q219 := eq_true q219
                                    have ea_ := Option.some.inj (hx216_2.symm.trans hx219_2)
                                    injection ea_ with ea_ en_ ec_
                                    subst ea_
                                    subst ec_
                                    clear en_
                                    have p220 : 0 ≤ (x11_4 : Int) := of_decide_eq_true (by first | (with_reducible assumption) | assumption)
                                    have q220 : x11_4 < (((rd_T40 t196 x9_2).f2).length : Int) := of_decide_eq_true (by first | (with_reducible assumption) | assumption)
                                    obtain ⟨ad220, e220, hx220_0⟩ := Kd.at_string (by repeat (first | (with_reducible exact HR219_2.out) | (with_reducible refine Kd.C_alloc ?_ _) | (with_reducible refine Kd.C_drewN ?_ _) | (with_reducible refine Kd.C_drew ?_) | exact HR219_2.out)) x11_4 p220 q220
                                    cases e220
                                    replace p220 := eq_true p220
                                    replace q220 := eq_true q220
                                    go_wp2
                                    go_roundg k4
                                    case measure => have := HK1.out; have := HK2.out; have := HJ15.out; have := HK4.out; omega
                                    case rel => exact ⟨(wrap64 (x10_4 + ((rdOf ByteArray.empty ((rd_T40 t196 x9_2).f2) x11_4).size : Int))), (wrap64 (x11_4 + 1)), (by first | rfl | (simp; done) | (simp [*]; done)), (by first | rfl | (simp; done) | (simp [*]; done)), H', ⟨by have := HK1.out; have := HK2.out; have := HJ15.out; have := HK4.out; omega⟩, ⟨by (with_reducible repeat (first | apply Kd.N_alloc | apply Kd.N_drewN | apply Kd.N_drew)); exact HO_4.out⟩, ⟨by (with_reducible repeat (first | apply Kd.R_alloc | apply Kd.R_drewN | apply Kd.R_drew)); exact HO_6.out⟩, ⟨by (with_reducible repeat (first | apply Kd.R_alloc | apply Kd.R_drewN | apply Kd.R_drew)); exact HO_8.out⟩, ⟨by (with_reducible repeat (first | apply Kd.V_alloc | apply Kd.V_drewN | apply Kd.V_drew)); exact HO_205002.out⟩, ⟨by (with_reducible repeat (first | refine blk_drewN ?_ _ | refine blk_drew ?_ | refine blk_alloc ?_ _)); exact BK204.out⟩, ⟨by repeat (first | (with_reducible first | exact HB.out | apply below_alloc | apply pw_below_drewN | apply below_drew1 | refine below_set ?_ GE204.out) | exact HB.out)⟩⟩
                                · rw [if_neg c24] at H
                                  exact absurd H (by simp)
                              · rw [if_neg c23] at H
                                have c23b0 : decide (x11_4 < (((rd_T40 t196 x9_2).f2).length : Int)) = false := decide_eq_false c23
                                clear c23
                                by_cases c26 : x10_4 > 128
                                · rw [if_pos c26] at H
                                  have c26b0 : decide (128 < x10_4) = true := decide_eq_true c26
                                  clear c26
                                  by_cases c27 : (((rd_T40 t196 x9_2).f2).length : Int) > 1
                                  · rw [if_pos c27] at H
                                    have c27b0 : decide (1 < (((rd_T40 t196 x9_2).f2).length : Int)) = true := decide_eq_true c27
                                    have c27b1 : decide (1 < ((rd_T40 t196 x9_2).f2).length) = true := decide_eq_true (by omega)
                                    clear c27
                                    obtain rfl := Option.some.inj H
                                    have p216 : 0 ≤ (x9_2 : Int) := of_decide_eq_true (by first | (with_reducible assumption) | assumption)
                                    have q216 : x9_2 < (t196.length : Int) := of_decide_eq_true (by first | (with_reducible assumption) | assumption)
                                    obtain ⟨ad216, A216_2, c216_2, e216, hx216_0, hx216_1, hx216_2, hl216_2, hi216_2⟩ := at_T40 (Kd.N_reads' HO_4.out).2.2 x9_2 p216 q216
                                    cases e216
                                    obtain ⟨ce216, hce216, hMe216, hcc216⟩ := Kd.N_get HO_4.out z40 x9_2 p216 (by first | exact q216 | exact of_decide_eq_true (by first | (with_reducible assumption) | assumption) | (have e_ := (Kd.N_reads' HO_4.out).1; omega))
                                    obtain ⟨ua216_2, uc216_2, rfl, ul216_2, ge216_2⟩ := k40_openF hMe216
                                    have hv216_2 := hcc216 2 _ rfl
                                    rw [add_field _ _ 2 (by omega)] at hv216_2
                                    replace hv216_2 := Option.some.inj (hv216_2.symm.trans hx216_2)
                                    injection hv216_2 with hva_ hvn_ hvc_
                                    rw [hva_] at ge216_2
                                    rw [hvc_] at ul216_2
                                    have HL216_2 := Aside0.mk (show Kd.V Kd.string 9 _ w.heap.size _ _ ((rd_T40 t196 x9_2).f2) from Kd.V_mk ul216_2 ge216_2)
                                    clear hva_ hvn_ hvc_ ge216_2 ul216_2
                                    clear hcc216 hce216
                                    have HR216_2 := Aside0.mk hi216_2
                                    have HC216_2 := Aside0.mk hl216_2
                                    clear hi216_2 hl216_2
                                    replace p216 := eq_true p216
                                    replace q216 := eq_true q216
                                    have p221 : 0 ≤ (x9_2 : Int) := of_decide_eq_true (by first | (with_reducible assumption) | assumption)
                                    have q221 : x9_2 < (t196.length : Int) := of_decide_eq_true (by first | (with_reducible assumption) | assumption)
                                    obtain ⟨ad221, A221_2, c221_2, e221, hx221_0, hx221_1, hx221_2, hl221_2, hi221_2⟩ := at_T40 (Kd.N_reads' HO_4.out).2.2 x9_2 p221 q221
                                    obtain rfl : ad216 = ad221 := (by injection e221)
                                    obtain ⟨ce221, hce221, hMe221, hcc221⟩ := Kd.N_get HO_4.out z40 x9_2 p221 (by first | exact q221 | exact of_decide_eq_true (by first | (with_reducible assumption) | assumption) | (have e_ := (Kd.N_reads' HO_4.out).1; omega))
                                    obtain ⟨ua221_2, uc221_2, rfl, ul221_2, ge221_2⟩ := k40_openF hMe221
                                    have hv221_2 := hcc221 2 _ rfl
                                    rw [add_field _ _ 2 (by omega)] at hv221_2
                                    replace hv221_2 := Option.some.inj (hv221_2.symm.trans hx221_2)
                                    injection hv221_2 with hva_ hvn_ hvc_
                                    rw [hva_] at ge221_2
                                    rw [hvc_] at ul221_2
                                    have HL221_2 := Aside0.mk (show Kd.V Kd.string 9 _ w.heap.size _ _ ((rd_T40 t196 x9_2).f2) from Kd.V_mk ul221_2 ge221_2)
                                    clear hva_ hvn_ hvc_ ge221_2 ul221_2
                                    clear hcc221 hce221
                                    have HR221_2 := Aside0.mk hi221_2
                                    have HC221_2 := Aside0.mk hl221_2
                                    clear hi221_2 hl221_2
                                    replace p221 := eq_true p221
                                    replace q221 := eq_true q221
                                    have ea_ := Option.some.inj (hx216_2.symm.trans hx221_2)
                                    injection ea_ with ea_ en_ ec_
                                    subst ea_
                                    subst ec_
                                    clear en_
                                    go_wp2
                                    go_ret
                                    exact ⟨by first | rfl | (simp [errW_none, errW_some] <;> rfl) | (simp [*, errW_none, errW_some] <;> rfl), by repeat (first | (with_reducible first | exact HB.out | apply below_alloc | apply pw_below_drewN | apply below_drew1 | refine below_set ?_ GE204.out) | exact HB.out)⟩
                                  · rw [if_neg c27] at H
                                    have c27b0 : decide (1 < (((rd_T40 t196 x9_2).f2).length : Int)) = false := decide_eq_false c27
                                    have c27b1 : decide (1 < ((rd_T40 t196 x9_2).f2).length) = false := decide_eq_false (by omega)
                                    clear c27
                                    by_cases c28 : x8_2.length + ((rd_T40 t196 x9_2).f2).length < 8796093022208
                                    · rw [if_pos c28] at H
                                      have LMc28 := Aside0.mk c28
                                      clear c28
                                      obtain ⟨y223, hy223⟩ : ∃ y_ : List ByteArray, y_ = (x8_2 ++ ((rd_T40 t196 x9_2).f2)) := ⟨_, rfl⟩
                                      replace H : (selvedgelaw15_CutAll.l1 k4 t195 t196 x6_1 y223 (wrap64 (x9_2 + 1)) t199 t200 t201) = some r := by first | (rw [hy223]; with_reducible exact H) | (have H2_ := (Option.bind_some _ _).symm.trans H; rw [hy223]; with_reducible exact H2_) | (have H2_ := (Option.bind_some _ _).symm.trans H; with_reducible exact H2_) | with_reducible exact H | (rw [hy223]; exact H) | exact H
                                      have Ny223 := Aside0.mk hy223
                                      clear hy223
                                      have H' := Aside0.mk H
                                      clear H
                                      have p216 : 0 ≤ (x9_2 : Int) := of_decide_eq_true (by first | (with_reducible assumption) | assumption)
                                      have q216 : x9_2 < (t196.length : Int) := of_decide_eq_true (by first | (with_reducible assumption) | assumption)
                                      obtain ⟨ad216, A216_2, c216_2, e216, hx216_0, hx216_1, hx216_2, hl216_2, hi216_2⟩ := at_T40 (Kd.N_reads' HO_4.out).2.2 x9_2 p216 q216
                                      cases e216
                                      obtain ⟨ce216, hce216, hMe216, hcc216⟩ := Kd.N_get HO_4.out z40 x9_2 p216 (by first | exact q216 | exact of_decide_eq_true (by first | (with_reducible assumption) | assumption) | (have e_ := (Kd.N_reads' HO_4.out).1; omega))
                                      obtain ⟨ua216_2, uc216_2, rfl, ul216_2, ge216_2⟩ := k40_openF hMe216
                                      have hv216_2 := hcc216 2 _ rfl
                                      rw [add_field _ _ 2 (by omega)] at hv216_2
                                      replace hv216_2 := Option.some.inj (hv216_2.symm.trans hx216_2)
                                      injection hv216_2 with hva_ hvn_ hvc_
                                      rw [hva_] at ge216_2
                                      rw [hvc_] at ul216_2
                                      have HL216_2 := Aside0.mk (show Kd.V Kd.string 9 _ w.heap.size _ _ ((rd_T40 t196 x9_2).f2) from Kd.V_mk ul216_2 ge216_2)
                                      clear hva_ hvn_ hvc_ ge216_2 ul216_2
                                      clear hcc216 hce216
                                      have HR216_2 := Aside0.mk hi216_2
                                      have HC216_2 := Aside0.mk hl216_2
                                      clear hi216_2 hl216_2
                                      replace p216 := eq_true p216
                                      replace q216 := eq_true q216
                                      have p221 : 0 ≤ (x9_2 : Int) := of_decide_eq_true (by first | (with_reducible assumption) | assumption)
                                      have q221 : x9_2 < (t196.length : Int) := of_decide_eq_true (by first | (with_reducible assumption) | assumption)
                                      obtain ⟨ad221, A221_2, c221_2, e221, hx221_0, hx221_1, hx221_2, hl221_2, hi221_2⟩ := at_T40 (Kd.N_reads' HO_4.out).2.2 x9_2 p221 q221
                                      obtain rfl : ad216 = ad221 := (by injection e221)
                                      obtain ⟨ce221, hce221, hMe221, hcc221⟩ := Kd.N_get HO_4.out z40 x9_2 p221 (by first | exact q221 | exact of_decide_eq_true (by first | (with_reducible assumption) | assumption) | (have e_ := (Kd.N_reads' HO_4.out).1; omega))
                                      obtain ⟨ua221_2, uc221_2, rfl, ul221_2, ge221_2⟩ := k40_openF hMe221
                                      have hv221_2 := hcc221 2 _ rfl
                                      rw [add_field _ _ 2 (by omega)] at hv221_2
                                      replace hv221_2 := Option.some.inj (hv221_2.symm.trans hx221_2)
                                      injection hv221_2 with hva_ hvn_ hvc_
                                      rw [hva_] at ge221_2
                                      rw [hvc_] at ul221_2
                                      have HL221_2 := Aside0.mk (show Kd.V Kd.string 9 _ w.heap.size _ _ ((rd_T40 t196 x9_2).f2) from Kd.V_mk ul221_2 ge221_2)
                                      clear hva_ hvn_ hvc_ ge221_2 ul221_2
                                      clear hcc221 hce221
                                      have HR221_2 := Aside0.mk hi221_2
                                      have HC221_2 := Aside0.mk hl221_2
                                      clear hi221_2 hl221_2
                                      replace p221 := eq_true p221
                                      replace q221 := eq_true q221
                                      have ea_ := Option.some.inj (hx216_2.symm.trans hx221_2)
                                      injection ea_ with ea_ en_ ec_
                                      subst ea_
                                      subst ec_
                                      clear en_
                                      have p222 : 0 ≤ (x9_2 : Int) := of_decide_eq_true (by first | (with_reducible assumption) | assumption)
                                      have q222 : x9_2 < (t196.length : Int) := of_decide_eq_true (by first | (with_reducible assumption) | assumption)
                                      obtain ⟨ad222, A222_2, c222_2, e222, hx222_0, hx222_1, hx222_2, hl222_2, hi222_2⟩ := at_T40 (Kd.N_reads' HO_4.out).2.2 x9_2 p222 q222
                                      obtain rfl : ad216 = ad222 := (by injection e222)
                                      obtain ⟨ce222, hce222, hMe222, hcc222⟩ := Kd.N_get HO_4.out z40 x9_2 p222 (by first | exact q222 | exact of_decide_eq_true (by first | (with_reducible assumption) | assumption) | (have e_ := (Kd.N_reads' HO_4.out).1; omega))
                                      obtain ⟨ua222_2, uc222_2, rfl, ul222_2, ge222_2⟩ := k40_openF hMe222
                                      have hv222_2 := hcc222 2 _ rfl
                                      rw [add_field _ _ 2 (by omega)] at hv222_2
                                      replace hv222_2 := Option.some.inj (hv222_2.symm.trans hx222_2)
                                      injection hv222_2 with hva_ hvn_ hvc_
                                      rw [hva_] at ge222_2
                                      rw [hvc_] at ul222_2
                                      have HL222_2 := Aside0.mk (show Kd.V Kd.string 9 _ w.heap.size _ _ ((rd_T40 t196 x9_2).f2) from Kd.V_mk ul222_2 ge222_2)
                                      clear hva_ hvn_ hvc_ ge222_2 ul222_2
                                      clear hcc222 hce222
                                      have HR222_2 := Aside0.mk hi222_2
                                      have HC222_2 := Aside0.mk hl222_2
                                      clear hi222_2 hl222_2
                                      replace p222 := eq_true p222
                                      replace q222 := eq_true q222
                                      have ea_ := Option.some.inj (hx216_2.symm.trans hx222_2)
                                      injection ea_ with ea_ en_ ec_
                                      subst ea_
                                      subst ec_
                                      clear en_
                                      go_wp2_with (first | ((with_reducible refine gate_builtin (b := .append) (xs := #[.tmp 100, .tmp 105]) rfl ?_); (try (refine gate_guard (by rfl) ?_; dsimp only)); at_builtin; refine Kd.R_append_rows Kd.string (w0 := w) w.heap.size rfl (.tmp 100) (.tmp 105) 37 9 (.string ⟨#[]⟩) 16 rfl Try.underlying37 info9 rfl (by decide) (by omega) u8 x8_2 ((rd_T40 t196 x9_2).f2) _ _ _ (fun k_ => some k_ ≠ (u6 : Value).ownBlock) (fun _ => False) rfl rfl ?aO ?aR (fun _ _ h => h) (fun _ h => h.elim) ?aF ?aB ?aS ?aL ?_; (case aR => repeat (first | exact (by repeat (first | (with_reducible exact HR222_2.out) | (with_reducible refine Kd.C_alloc ?_ _) | (with_reducible refine Kd.C_drewN ?_ _) | (with_reducible refine Kd.C_drew ?_) | exact HR222_2.out)) | (with_reducible refine Kd.C_alloc ?_ _) | (with_reducible refine Kd.C_drewN ?_ _) | (with_reducible refine Kd.C_drew ?_))); (case aB => exact (by repeat (first | (with_reducible first | exact HB.out | apply below_alloc | apply pw_below_drewN | apply below_drew1 | refine below_set ?_ GE204.out) | exact HB.out))); (case aF => exact (fun k_ hk => Kd.fresh' (Kd.R_lt (by (with_reducible repeat (first | apply Kd.R_alloc | apply Kd.R_drewN | apply Kd.R_drew)); exact HO_6.out)) k_ hk)); (case aO => exact (by (with_reducible repeat (first | apply Kd.R_alloc | apply Kd.R_drewN | apply Kd.R_drew)); exact HO_8.out)); (case aS => exact (below_size (by repeat (first | (with_reducible first | exact HB.out | apply below_alloc | apply pw_below_drewN | apply below_drew1 | refine below_set ?_ GE204.out) | exact HB.out)))); (case aL => have := LMc28.out; omega); intro v224 w29 ho hb hg hat; rw [← Ny223.out] at ho; have n0_ := Aside0.mk (Kd.N_afterv (ok := (fun k_ => some k_ ≠ (u6 : Value).ownBlock ∧ k_ ≠ gb204)) (by (with_reducible repeat (first | apply Kd.N_alloc | apply Kd.N_drewN | apply Kd.N_drew)); exact Kd.N_mono HO_4.out (fun _ hk => ⟨⟨hk.1, hk.2.2⟩, hk.2.1⟩)) hg hat); have n1_ := Aside0.mk (Kd.R_after (ok := (fun _ => True)) (by (with_reducible repeat (first | apply Kd.R_alloc | apply Kd.R_drewN | apply Kd.R_drew)); exact Kd.R_mono HO_6.out (fun _ hk => ⟨trivial, hk⟩)) hg hat); have n2_ := Aside0.mk (Kd.V_afterv (ok := (fun k_ => some k_ ≠ (.slice (some ad216) t196.length co17 : Value).ownBlock ∧ some k_ ≠ (u6 : Value).ownBlock ∧ k_ ≠ gb204)) (by (with_reducible repeat (first | apply Kd.V_alloc | apply Kd.V_drewN | apply Kd.V_drew)); exact Kd.V_mono HO_205002.out (fun _ hk => ⟨⟨hk.1, ⟨hk.2.1, hk.2.2.2⟩⟩, hk.2.2.1⟩)) hg hat); have n3_ := Aside0.mk (blk_grown (g := gb204) (o := .cells #[.int .i64 t199, .string t200, .slice Ao10 t201.length co10] 39 (0, 0)) (by (with_reducible repeat (first | refine blk_drewN ?_ _ | refine blk_drew ?_ | refine blk_alloc ?_ _)); exact BK204.out) hg (Kd.R_ne HO_8.out BK204.out (by decide))); have n4_ := Aside0.mk (Kd.V_afterv (ok := (fun k_ => some k_ ≠ (.slice (some ad216) t196.length co17 : Value).ownBlock ∧ some k_ ≠ (u6 : Value).ownBlock ∧ k_ ≠ gb204)) (by (with_reducible repeat (first | apply Kd.V_alloc | apply Kd.V_drewN | apply Kd.V_drew)); exact Kd.V_mono HL216_2.out (fun _ hk => ⟨⟨hk.2, ⟨hk.1.1, hk.1.2.2⟩⟩, hk.1.2.1⟩)) hg hat); have n5_ := Aside0.mk (Kd.V_afterv (ok := (fun k_ => some k_ ≠ (.slice (some ad216) t196.length co17 : Value).ownBlock ∧ some k_ ≠ (u6 : Value).ownBlock ∧ k_ ≠ gb204)) (by (with_reducible repeat (first | apply Kd.V_alloc | apply Kd.V_drewN | apply Kd.V_drew)); exact Kd.V_mono HL221_2.out (fun _ hk => ⟨⟨hk.2, ⟨hk.1.1, hk.1.2.2⟩⟩, hk.1.2.1⟩)) hg hat); have n6_ := Aside0.mk (Kd.V_afterv (ok := (fun k_ => some k_ ≠ (.slice (some ad216) t196.length co17 : Value).ownBlock ∧ some k_ ≠ (u6 : Value).ownBlock ∧ k_ ≠ gb204)) (by (with_reducible repeat (first | apply Kd.V_alloc | apply Kd.V_drewN | apply Kd.V_drew)); exact Kd.V_mono HL222_2.out (fun _ hk => ⟨⟨hk.2, ⟨hk.1.1, hk.1.2.2⟩⟩, hk.1.2.1⟩)) hg hat); have n7_ := Aside0.mk (hb); have n8_ := Aside0.mk (ho); clear HO_4; clear HO_6; clear HO_205002; clear BK204; clear HL216_2; clear HL221_2; clear HL222_2; clear HB; clear HO_8; have HO_4 := n0_; have HO_6 := n1_; have HO_205002 := n2_; have BK204 := n3_; have HL216_2 := n4_; have HL221_2 := n5_; have HL222_2 := n6_; have HB := n7_; have HO225 := n8_; clear n0_ n1_ n2_ n3_ n4_ n5_ n6_ n7_ n8_; clear ho hb hg hat))
                                      go_roundg k4
                                      case measure => have := HK1.out; have := HK2.out; have := HJ15.out; have := HK4.out; omega
                                      case rel => exact ⟨(y223), (wrap64 (x9_2 + 1)), (by first | rfl | (simp; done) | (simp [*]; done)), H', ⟨by have := HK1.out; have := HK2.out; have := HJ15.out; have := HK4.out; omega⟩, ⟨by (with_reducible repeat (first | apply Kd.N_alloc | apply Kd.N_drewN | apply Kd.N_drew)); exact Kd.N_mono HO_4.out (fun _ hk => ⟨hk.1.1, ⟨hk.2, hk.1.2⟩⟩)⟩, ⟨by (with_reducible repeat (first | apply Kd.R_alloc | apply Kd.R_drewN | apply Kd.R_drew)); exact Kd.R_mono HO_6.out (fun _ hk => hk.2)⟩, ⟨by (with_reducible repeat (first | apply Kd.R_alloc | apply Kd.R_drewN | apply Kd.R_drew)); exact HO225.out⟩, ⟨by (with_reducible repeat (first | apply Kd.V_alloc | apply Kd.V_drewN | apply Kd.V_drew)); exact Kd.V_mono HO_205002.out (fun _ hk => ⟨hk.1.1, ⟨hk.1.2.1, ⟨hk.2, hk.1.2.2⟩⟩⟩)⟩, ⟨by (with_reducible repeat (first | refine blk_drewN ?_ _ | refine blk_drew ?_ | refine blk_alloc ?_ _)); exact BK204.out⟩, ⟨by repeat (first | (with_reducible first | exact HB.out | apply below_alloc | apply pw_below_drewN | apply below_drew1 | refine below_set ?_ GE204.out) | exact HB.out)⟩⟩
                                    · rw [if_neg c28] at H
                                      exact absurd H (by simp)
                                · rw [if_neg c26] at H
                                  have c26b0 : decide (128 < x10_4) = false := decide_eq_false c26
                                  clear c26
                                  by_cases c30 : x8_2.length + ((rd_T40 t196 x9_2).f2).length < 8796093022208
                                  · rw [if_pos c30] at H
                                    have LMc30 := Aside0.mk c30
                                    clear c30
                                    obtain ⟨y227, hy227⟩ : ∃ y_ : List ByteArray, y_ = (x8_2 ++ ((rd_T40 t196 x9_2).f2)) := ⟨_, rfl⟩
                                    replace H : (selvedgelaw15_CutAll.l1 k4 t195 t196 x6_1 y227 (wrap64 (x9_2 + 1)) t199 t200 t201) = some r := by first | (rw [hy227]; with_reducible exact H) | (have H2_ := (Option.bind_some _ _).symm.trans H; rw [hy227]; with_reducible exact H2_) | (have H2_ := (Option.bind_some _ _).symm.trans H; with_reducible exact H2_) | with_reducible exact H | (rw [hy227]; exact H) | exact H
                                    have Ny227 := Aside0.mk hy227
                                    clear hy227
                                    have H' := Aside0.mk H
                                    clear H
                                    have p216 : 0 ≤ (x9_2 : Int) := of_decide_eq_true (by first | (with_reducible assumption) | assumption)
                                    have q216 : x9_2 < (t196.length : Int) := of_decide_eq_true (by first | (with_reducible assumption) | assumption)
                                    obtain ⟨ad216, A216_2, c216_2, e216, hx216_0, hx216_1, hx216_2, hl216_2, hi216_2⟩ := at_T40 (Kd.N_reads' HO_4.out).2.2 x9_2 p216 q216
                                    cases e216
                                    obtain ⟨ce216, hce216, hMe216, hcc216⟩ := Kd.N_get HO_4.out z40 x9_2 p216 (by first | exact q216 | exact of_decide_eq_true (by first | (with_reducible assumption) | assumption) | (have e_ := (Kd.N_reads' HO_4.out).1; omega))
                                    obtain ⟨ua216_2, uc216_2, rfl, ul216_2, ge216_2⟩ := k40_openF hMe216
                                    have hv216_2 := hcc216 2 _ rfl
                                    rw [add_field _ _ 2 (by omega)] at hv216_2
                                    replace hv216_2 := Option.some.inj (hv216_2.symm.trans hx216_2)
                                    injection hv216_2 with hva_ hvn_ hvc_
                                    rw [hva_] at ge216_2
                                    rw [hvc_] at ul216_2
                                    have HL216_2 := Aside0.mk (show Kd.V Kd.string 9 _ w.heap.size _ _ ((rd_T40 t196 x9_2).f2) from Kd.V_mk ul216_2 ge216_2)
                                    clear hva_ hvn_ hvc_ ge216_2 ul216_2
                                    clear hcc216 hce216
                                    have HR216_2 := Aside0.mk hi216_2
                                    have HC216_2 := Aside0.mk hl216_2
                                    clear hi216_2 hl216_2
                                    replace p216 := eq_true p216
                                    replace q216 := eq_true q216
                                    have p226 : 0 ≤ (x9_2 : Int) := of_decide_eq_true (by first | (with_reducible assumption) | assumption)
                                    have q226 : x9_2 < (t196.length : Int) := of_decide_eq_true (by first | (with_reducible assumption) | assumption)
                                    obtain ⟨ad226, A226_2, c226_2, e226, hx226_0, hx226_1, hx226_2, hl226_2, hi226_2⟩ := at_T40 (Kd.N_reads' HO_4.out).2.2 x9_2 p226 q226
                                    obtain rfl : ad216 = ad226 := (by injection e226)
                                    obtain ⟨ce226, hce226, hMe226, hcc226⟩ := Kd.N_get HO_4.out z40 x9_2 p226 (by first | exact q226 | exact of_decide_eq_true (by first | (with_reducible assumption) | assumption) | (have e_ := (Kd.N_reads' HO_4.out).1; omega))
                                    obtain ⟨ua226_2, uc226_2, rfl, ul226_2, ge226_2⟩ := k40_openF hMe226
                                    have hv226_2 := hcc226 2 _ rfl
                                    rw [add_field _ _ 2 (by omega)] at hv226_2
                                    replace hv226_2 := Option.some.inj (hv226_2.symm.trans hx226_2)
                                    injection hv226_2 with hva_ hvn_ hvc_
                                    rw [hva_] at ge226_2
                                    rw [hvc_] at ul226_2
                                    have HL226_2 := Aside0.mk (show Kd.V Kd.string 9 _ w.heap.size _ _ ((rd_T40 t196 x9_2).f2) from Kd.V_mk ul226_2 ge226_2)
                                    clear hva_ hvn_ hvc_ ge226_2 ul226_2
                                    clear hcc226 hce226
                                    have HR226_2 := Aside0.mk hi226_2
                                    have HC226_2 := Aside0.mk hl226_2
                                    clear hi226_2 hl226_2
                                    replace p226 := eq_true p226
                                    replace q226 := eq_true q226
                                    have ea_ := Option.some.inj (hx216_2.symm.trans hx226_2)
                                    injection ea_ with ea_ en_ ec_
                                    subst ea_
                                    subst ec_
                                    clear en_
                                    go_wp2_with (first | ((with_reducible refine gate_builtin (b := .append) (xs := #[.tmp 100, .tmp 105]) rfl ?_); (try (refine gate_guard (by rfl) ?_; dsimp only)); at_builtin; refine Kd.R_append_rows Kd.string (w0 := w) w.heap.size rfl (.tmp 100) (.tmp 105) 37 9 (.string ⟨#[]⟩) 16 rfl Try.underlying37 info9 rfl (by decide) (by omega) u8 x8_2 ((rd_T40 t196 x9_2).f2) _ _ _ (fun k_ => some k_ ≠ (u6 : Value).ownBlock) (fun _ => False) rfl rfl ?aO ?aR (fun _ _ h => h) (fun _ h => h.elim) ?aF ?aB ?aS ?aL ?_; (case aR => repeat (first | exact (by repeat (first | (with_reducible exact HR226_2.out) | (with_reducible refine Kd.C_alloc ?_ _) | (with_reducible refine Kd.C_drewN ?_ _) | (with_reducible refine Kd.C_drew ?_) | exact HR226_2.out)) | (with_reducible refine Kd.C_alloc ?_ _) | (with_reducible refine Kd.C_drewN ?_ _) | (with_reducible refine Kd.C_drew ?_))); (case aB => exact (by repeat (first | (with_reducible first | exact HB.out | apply below_alloc | apply pw_below_drewN | apply below_drew1 | refine below_set ?_ GE204.out) | exact HB.out))); (case aF => exact (fun k_ hk => Kd.fresh' (Kd.R_lt (by (with_reducible repeat (first | apply Kd.R_alloc | apply Kd.R_drewN | apply Kd.R_drew)); exact HO_6.out)) k_ hk)); (case aO => exact (by (with_reducible repeat (first | apply Kd.R_alloc | apply Kd.R_drewN | apply Kd.R_drew)); exact HO_8.out)); (case aS => exact (below_size (by repeat (first | (with_reducible first | exact HB.out | apply below_alloc | apply pw_below_drewN | apply below_drew1 | refine below_set ?_ GE204.out) | exact HB.out)))); (case aL => have := LMc30.out; omega); intro v228 w31 ho hb hg hat; rw [← Ny227.out] at ho; have n0_ := Aside0.mk (Kd.N_afterv (ok := (fun k_ => some k_ ≠ (u6 : Value).ownBlock ∧ k_ ≠ gb204)) (by (with_reducible repeat (first | apply Kd.N_alloc | apply Kd.N_drewN | apply Kd.N_drew)); exact Kd.N_mono HO_4.out (fun _ hk => ⟨⟨hk.1, hk.2.2⟩, hk.2.1⟩)) hg hat); have n1_ := Aside0.mk (Kd.R_after (ok := (fun _ => True)) (by (with_reducible repeat (first | apply Kd.R_alloc | apply Kd.R_drewN | apply Kd.R_drew)); exact Kd.R_mono HO_6.out (fun _ hk => ⟨trivial, hk⟩)) hg hat); have n2_ := Aside0.mk (Kd.V_afterv (ok := (fun k_ => some k_ ≠ (.slice (some ad216) t196.length co17 : Value).ownBlock ∧ some k_ ≠ (u6 : Value).ownBlock ∧ k_ ≠ gb204)) (by (with_reducible repeat (first | apply Kd.V_alloc | apply Kd.V_drewN | apply Kd.V_drew)); exact Kd.V_mono HO_205002.out (fun _ hk => ⟨⟨hk.1, ⟨hk.2.1, hk.2.2.2⟩⟩, hk.2.2.1⟩)) hg hat); have n3_ := Aside0.mk (blk_grown (g := gb204) (o := .cells #[.int .i64 t199, .string t200, .slice Ao10 t201.length co10] 39 (0, 0)) (by (with_reducible repeat (first | refine blk_drewN ?_ _ | refine blk_drew ?_ | refine blk_alloc ?_ _)); exact BK204.out) hg (Kd.R_ne HO_8.out BK204.out (by decide))); have n4_ := Aside0.mk (Kd.V_afterv (ok := (fun k_ => some k_ ≠ (.slice (some ad216) t196.length co17 : Value).ownBlock ∧ some k_ ≠ (u6 : Value).ownBlock ∧ k_ ≠ gb204)) (by (with_reducible repeat (first | apply Kd.V_alloc | apply Kd.V_drewN | apply Kd.V_drew)); exact Kd.V_mono HL216_2.out (fun _ hk => ⟨⟨hk.2, ⟨hk.1.1, hk.1.2.2⟩⟩, hk.1.2.1⟩)) hg hat); have n5_ := Aside0.mk (Kd.V_afterv (ok := (fun k_ => some k_ ≠ (.slice (some ad216) t196.length co17 : Value).ownBlock ∧ some k_ ≠ (u6 : Value).ownBlock ∧ k_ ≠ gb204)) (by (with_reducible repeat (first | apply Kd.V_alloc | apply Kd.V_drewN | apply Kd.V_drew)); exact Kd.V_mono HL226_2.out (fun _ hk => ⟨⟨hk.2, ⟨hk.1.1, hk.1.2.2⟩⟩, hk.1.2.1⟩)) hg hat); have n6_ := Aside0.mk (hb); have n7_ := Aside0.mk (ho); clear HO_4; clear HO_6; clear HO_205002; clear BK204; clear HL216_2; clear HL226_2; clear HB; clear HO_8; have HO_4 := n0_; have HO_6 := n1_; have HO_205002 := n2_; have BK204 := n3_; have HL216_2 := n4_; have HL226_2 := n5_; have HB := n6_; have HO229 := n7_; clear n0_ n1_ n2_ n3_ n4_ n5_ n6_ n7_; clear ho hb hg hat))
                                    go_roundg k4
                                    case measure => have := HK1.out; have := HK2.out; have := HJ15.out; have := HK4.out; omega
                                    case rel => exact ⟨(y227), (wrap64 (x9_2 + 1)), (by first | rfl | (simp; done) | (simp [*]; done)), H', ⟨by have := HK1.out; have := HK2.out; have := HJ15.out; have := HK4.out; omega⟩, ⟨by (with_reducible repeat (first | apply Kd.N_alloc | apply Kd.N_drewN | apply Kd.N_drew)); exact Kd.N_mono HO_4.out (fun _ hk => ⟨hk.1.1, ⟨hk.2, hk.1.2⟩⟩)⟩, ⟨by (with_reducible repeat (first | apply Kd.R_alloc | apply Kd.R_drewN | apply Kd.R_drew)); exact Kd.R_mono HO_6.out (fun _ hk => hk.2)⟩, ⟨by (with_reducible repeat (first | apply Kd.R_alloc | apply Kd.R_drewN | apply Kd.R_drew)); exact HO229.out⟩, ⟨by (with_reducible repeat (first | apply Kd.V_alloc | apply Kd.V_drewN | apply Kd.V_drew)); exact Kd.V_mono HO_205002.out (fun _ hk => ⟨hk.1.1, ⟨hk.1.2.1, ⟨hk.2, hk.1.2.2⟩⟩⟩)⟩, ⟨by (with_reducible repeat (first | refine blk_drewN ?_ _ | refine blk_drew ?_ | refine blk_alloc ?_ _)); exact BK204.out⟩, ⟨by repeat (first | (with_reducible first | exact HB.out | apply below_alloc | apply pw_below_drewN | apply below_drew1 | refine below_set ?_ GE204.out) | exact HB.out)⟩⟩
                                  · rw [if_neg c30] at H
                                    exact absurd H (by simp)
                            · rw [if_neg c22] at H
                              exact absurd H (by simp)
                          · rw [if_neg c21] at H
                            exact absurd H (by simp)
              · rw [if_neg c15] at H
                have c15b0 : decide (x9_2 < (t196.length : Int)) = false := decide_eq_false c15
                clear c15
                by_cases c32 : x8_2.length + t201.length < 8796093022208
                · rw [if_pos c32] at H
                  have LMc32 := Aside0.mk c32
                  clear c32
                  obtain ⟨y209, hy209⟩ : ∃ y_ : List ByteArray, y_ = (x8_2 ++ t201) := ⟨_, rfl⟩
                  replace H : (if t195 = true then ((selvedgeref01_Same.f k2 y209 x6_1).bind fun t212 => (if t212 = true then ((selvedgeref15_Chained.f k2 t196 0 (⟨#[]⟩ : ByteArray)).bind fun t213 => (if t213 = true then (some (t199 == (t196.length : Int))) else (some false))) else (some false))) else (some false)) = some r := by first | (rw [hy209]; with_reducible exact H) | (have H2_ := (Option.bind_some _ _).symm.trans H; rw [hy209]; with_reducible exact H2_) | (have H2_ := (Option.bind_some _ _).symm.trans H; with_reducible exact H2_) | with_reducible exact H | (rw [hy209]; exact H) | exact H
                  have Ny209 := Aside0.mk hy209
                  clear hy209
                  by_cases c33 : t195 = true
                  · subst c33
                    have H1 : ((selvedgeref01_Same.f k2 y209 x6_1).bind fun t212 => (if t212 = true then ((selvedgeref15_Chained.f k2 t196 0 (⟨#[]⟩ : ByteArray)).bind fun t213 => (if t213 = true then (some (t199 == (t196.length : Int))) else (some false))) else (some false))) = some r := by rw [if_pos rfl] at H; exact H
                    clear H
                    have H := H1
                    clear H1
                    replace H := Option.bind_eq_some_iff.mp H
                    obtain ⟨t212, A340, H⟩ := H
                    replace H : (if t212 = true then ((selvedgeref15_Chained.f k2 t196 0 (⟨#[]⟩ : ByteArray)).bind fun t213 => (if t213 = true then (some (t199 == (t196.length : Int))) else (some false))) else (some false)) = some r := H
                    have A34 := Aside0.mk A340
                    clear A340
                    by_cases c35 : t212 = true
                    · subst c35
                      have H1 : ((selvedgeref15_Chained.f k2 t196 0 (⟨#[]⟩ : ByteArray)).bind fun t213 => (if t213 = true then (some (t199 == (t196.length : Int))) else (some false))) = some r := by rw [if_pos rfl] at H; exact H
                      clear H
                      have H := H1
                      clear H1
                      replace H := Option.bind_eq_some_iff.mp H
                      obtain ⟨t213, A360, H⟩ := H
                      replace H : (if t213 = true then (some (t199 == (t196.length : Int))) else (some false)) = some r := H
                      have A36 := Aside0.mk A360
                      clear A360
                      by_cases c37 : t213 = true
                      · subst c37
                        have H1 : (some (t199 == (t196.length : Int))) = some r := by rw [if_pos rfl] at H; exact H
                        clear H
                        have H := H1
                        clear H1
                        obtain rfl := Option.some.inj H
                        obtain ⟨Ao38, co38, eo38⟩ := Kd.N_slice HO_4.out
                        subst eo38
                        have hcz39_0 : wr.cell? ⟨gb204, 0, none⟩ = some (.int .i64 t199) := (blk_cell BK204.out 0).trans rfl
                        have hcz39_1 : wr.cell? ⟨gb204, 1, none⟩ = some (.string t200) := (blk_cell BK204.out 1).trans rfl
                        have hcz39_2 : wr.cell? ⟨gb204, 2, none⟩ = some (.slice Ao10 t201.length co10) := (blk_cell BK204.out 2).trans rfl
                        have hfz39_0 := blk_frozen BK204.out 0
                        have hfz39_1 := blk_frozen BK204.out 1
                        have hfz39_2 := blk_frozen BK204.out 2
                        go_wp2_with (first | ((with_reducible refine gate_builtin (b := .append) (xs := #[.tmp 107, .tmp 109]) rfl ?_); (try (refine gate_guard (by rfl) ?_; dsimp only)); at_builtin; refine Kd.R_append_rows Kd.string (w0 := w) w.heap.size rfl (.tmp 107) (.tmp 109) 37 9 (.string ⟨#[]⟩) 16 rfl Try.underlying37 info9 rfl (by decide) (by omega) u8 x8_2 t201 _ _ _ (fun k_ => some k_ ≠ (u6 : Value).ownBlock) (fun _ => False) rfl rfl ?aO ?aR (fun _ _ h => h) (fun _ h => h.elim) ?aF ?aB ?aS ?aL ?_; (case aR => repeat (first | exact (Kd.V_reads' HO_205002.out).2.2 | (with_reducible refine Kd.C_alloc ?_ _) | (with_reducible refine Kd.C_drewN ?_ _) | (with_reducible refine Kd.C_drew ?_))); (case aB => exact (by repeat (first | (with_reducible first | exact HB.out | apply below_alloc | apply pw_below_drewN | apply below_drew1 | refine below_set ?_ GE204.out) | exact HB.out))); (case aF => exact (fun k_ hk => Kd.fresh' (Kd.R_lt (by (with_reducible repeat (first | apply Kd.R_alloc | apply Kd.R_drewN | apply Kd.R_drew)); exact HO_6.out)) k_ hk)); (case aO => exact (by (with_reducible repeat (first | apply Kd.R_alloc | apply Kd.R_drewN | apply Kd.R_drew)); exact HO_8.out)); (case aS => exact (below_size (by repeat (first | (with_reducible first | exact HB.out | apply below_alloc | apply pw_below_drewN | apply below_drew1 | refine below_set ?_ GE204.out) | exact HB.out)))); (case aL => have := LMc32.out; omega); intro v210 w40 ho hb hg hat; rw [← Ny209.out] at ho; have n0_ := Aside0.mk (Kd.N_afterv (ok := (fun k_ => some k_ ≠ (u6 : Value).ownBlock ∧ k_ ≠ gb204)) (by (with_reducible repeat (first | apply Kd.N_alloc | apply Kd.N_drewN | apply Kd.N_drew)); exact Kd.N_mono HO_4.out (fun _ hk => ⟨⟨hk.1, hk.2.2⟩, hk.2.1⟩)) hg hat); have n1_ := Aside0.mk (Kd.R_after (ok := (fun _ => True)) (by (with_reducible repeat (first | apply Kd.R_alloc | apply Kd.R_drewN | apply Kd.R_drew)); exact Kd.R_mono HO_6.out (fun _ hk => ⟨trivial, hk⟩)) hg hat); have n2_ := Aside0.mk (Kd.V_afterv (ok := (fun k_ => some k_ ≠ (.slice Ao38 t196.length co38 : Value).ownBlock ∧ some k_ ≠ (u6 : Value).ownBlock ∧ k_ ≠ gb204)) (by (with_reducible repeat (first | apply Kd.V_alloc | apply Kd.V_drewN | apply Kd.V_drew)); exact Kd.V_mono HO_205002.out (fun _ hk => ⟨⟨hk.1, ⟨hk.2.1, hk.2.2.2⟩⟩, hk.2.2.1⟩)) hg hat); have n3_ := Aside0.mk (blk_grown (g := gb204) (o := .cells #[.int .i64 t199, .string t200, .slice Ao10 t201.length co10] 39 (0, 0)) (by (with_reducible repeat (first | refine blk_drewN ?_ _ | refine blk_drew ?_ | refine blk_alloc ?_ _)); exact BK204.out) hg (Kd.R_ne HO_8.out BK204.out (by decide))); have n4_ := Aside0.mk (hb); have n5_ := Aside0.mk (ho); clear HO_4; clear HO_6; clear HO_205002; clear BK204; clear HB; clear HO_8; have HO_4 := n0_; have HO_6 := n1_; have HO_205002 := n2_; have BK204 := n3_; have HB := n4_; have HO211 := n5_; clear n0_ n1_ n2_ n3_ n4_ n5_; clear ho hb hg hat; obtain ⟨Ao41, co41, eo41⟩ := Kd.R_slice HO211.out; subst eo41; obtain ⟨Ao42, co42, eo42⟩ := Kd.R_slice HO_6.out; subst eo42) | (go_at_call 49; (with_reducible refine (selvedgeref01_Same.calls k2 _ _ y209 _ _ x6_1 true _ ?side1 ?side2 ?side3 ?side4 A34.out).mono ?_); (case side1 => repeat (first | exact (Kd.R_reads' HO211.out).2.2 | (with_reducible refine Kd.C_alloc ?_ _) | (with_reducible refine Kd.C_drewN ?_ _) | (with_reducible refine Kd.C_drew ?_))); (case side2 => exact (Kd.R_reads' HO211.out).2.1); (case side3 => repeat (first | exact (Kd.R_reads' HO_6.out).2.2 | (with_reducible refine Kd.C_alloc ?_ _) | (with_reducible refine Kd.C_drewN ?_ _) | (with_reducible refine Kd.C_drew ?_))); (case side4 => exact (Kd.R_reads' HO_6.out).2.1); rintro e w' ⟨rfl, ⟨nd, rfl⟩⟩) | (go_at_call 50; (with_reducible refine (selvedgeref15_Chained.calls k2 _ _ t196 0 (⟨#[]⟩ : ByteArray) true _ ?side1 ?side2 A36.out).mono ?_); (case side1 => repeat (first | exact (Kd.N_reads' HO_4.out).2.2 | (with_reducible refine Kd.C_alloc ?_ _) | (with_reducible refine Kd.C_drewN ?_ _) | (with_reducible refine Kd.C_drew ?_))); (case side2 => exact (Kd.N_reads' HO_4.out).2.1); rintro e w43 ⟨rfl, hb⟩; have n0_ := Aside0.mk (Kd.N_below (by (with_reducible repeat (first | apply Kd.N_alloc | apply Kd.N_drewN | apply Kd.N_drew)); exact HO_4.out) hb); have n1_ := Aside0.mk (Kd.R_below (by (with_reducible repeat (first | apply Kd.R_alloc | apply Kd.R_drewN | apply Kd.R_drew)); exact HO_6.out) hb); have n2_ := Aside0.mk (Kd.V_below (by (with_reducible repeat (first | apply Kd.V_alloc | apply Kd.V_drewN | apply Kd.V_drew)); exact HO_205002.out) hb); have n3_ := Aside0.mk (Kd.R_below (by (with_reducible repeat (first | apply Kd.R_alloc | apply Kd.R_drewN | apply Kd.R_drew)); exact HO211.out) hb); have n4_ := Aside0.mk (blk_below (g := gb204) (o := .cells #[.int .i64 t199, .string t200, .slice Ao10 t201.length co10] 39 (0, 0)) (by (with_reducible repeat (first | refine blk_drewN ?_ _ | refine blk_drew ?_ | refine blk_alloc ?_ _)); exact BK204.out) hb); have n5_ := Aside0.mk (below_step (by repeat (first | (with_reducible first | exact HB.out | apply below_alloc | apply pw_below_drewN | apply below_drew1 | refine below_set ?_ GE204.out) | exact HB.out)) hb); clear HO_4; clear HO_6; clear HO_205002; clear HO211; clear BK204; clear HB; have HO_4 := n0_; have HO_6 := n1_; have HO_205002 := n2_; have HO211 := n3_; have BK204 := n4_; have HB := n5_; clear n0_ n1_ n2_ n3_ n4_ n5_; (try clear hb); (try clear hb2); (try clear hk); (try clear hi); have hcz44_0 : w43.cell? ⟨gb204, 0, none⟩ = some (.int .i64 t199) := (blk_cell BK204.out 0).trans rfl; have hcz44_1 : w43.cell? ⟨gb204, 1, none⟩ = some (.string t200) := (blk_cell BK204.out 1).trans rfl; have hcz44_2 : w43.cell? ⟨gb204, 2, none⟩ = some (.slice Ao10 t201.length co10) := (blk_cell BK204.out 2).trans rfl; have hfz44_0 := blk_frozen BK204.out 0; have hfz44_1 := blk_frozen BK204.out 1; have hfz44_2 := blk_frozen BK204.out 2))
                        go_ret
                        exact ⟨by first | rfl | (simp [errW_none, errW_some] <;> rfl) | (simp [*, errW_none, errW_some] <;> rfl), by repeat (first | (with_reducible first | exact HB.out | apply below_alloc | apply pw_below_drewN | apply below_drew1 | refine below_set ?_ GE204.out) | exact HB.out)⟩
                      · replace c37 := Bool.eq_false_iff.mpr c37
                        subst c37
                        have H1 : (some false) = some r := by rw [if_neg (show ¬ (false = true) by decide)] at H; exact H
                        clear H
                        have H := H1
                        clear H1
                        obtain rfl := Option.some.inj H
                        obtain ⟨Ao45, co45, eo45⟩ := Kd.N_slice HO_4.out
                        subst eo45
                        have hcz46_0 : wr.cell? ⟨gb204, 0, none⟩ = some (.int .i64 t199) := (blk_cell BK204.out 0).trans rfl
                        have hcz46_1 : wr.cell? ⟨gb204, 1, none⟩ = some (.string t200) := (blk_cell BK204.out 1).trans rfl
                        have hcz46_2 : wr.cell? ⟨gb204, 2, none⟩ = some (.slice Ao10 t201.length co10) := (blk_cell BK204.out 2).trans rfl
                        have hfz46_0 := blk_frozen BK204.out 0
                        have hfz46_1 := blk_frozen BK204.out 1
                        have hfz46_2 := blk_frozen BK204.out 2
                        go_wp2_with (first | ((with_reducible refine gate_builtin (b := .append) (xs := #[.tmp 107, .tmp 109]) rfl ?_); (try (refine gate_guard (by rfl) ?_; dsimp only)); at_builtin; refine Kd.R_append_rows Kd.string (w0 := w) w.heap.size rfl (.tmp 107) (.tmp 109) 37 9 (.string ⟨#[]⟩) 16 rfl Try.underlying37 info9 rfl (by decide) (by omega) u8 x8_2 t201 _ _ _ (fun k_ => some k_ ≠ (u6 : Value).ownBlock) (fun _ => False) rfl rfl ?aO ?aR (fun _ _ h => h) (fun _ h => h.elim) ?aF ?aB ?aS ?aL ?_; (case aR => repeat (first | exact (Kd.V_reads' HO_205002.out).2.2 | (with_reducible refine Kd.C_alloc ?_ _) | (with_reducible refine Kd.C_drewN ?_ _) | (with_reducible refine Kd.C_drew ?_))); (case aB => exact (by repeat (first | (with_reducible first | exact HB.out | apply below_alloc | apply pw_below_drewN | apply below_drew1 | refine below_set ?_ GE204.out) | exact HB.out))); (case aF => exact (fun k_ hk => Kd.fresh' (Kd.R_lt (by (with_reducible repeat (first | apply Kd.R_alloc | apply Kd.R_drewN | apply Kd.R_drew)); exact HO_6.out)) k_ hk)); (case aO => exact (by (with_reducible repeat (first | apply Kd.R_alloc | apply Kd.R_drewN | apply Kd.R_drew)); exact HO_8.out)); (case aS => exact (below_size (by repeat (first | (with_reducible first | exact HB.out | apply below_alloc | apply pw_below_drewN | apply below_drew1 | refine below_set ?_ GE204.out) | exact HB.out)))); (case aL => have := LMc32.out; omega); intro v210 w47 ho hb hg hat; rw [← Ny209.out] at ho; have n0_ := Aside0.mk (Kd.N_afterv (ok := (fun k_ => some k_ ≠ (u6 : Value).ownBlock ∧ k_ ≠ gb204)) (by (with_reducible repeat (first | apply Kd.N_alloc | apply Kd.N_drewN | apply Kd.N_drew)); exact Kd.N_mono HO_4.out (fun _ hk => ⟨⟨hk.1, hk.2.2⟩, hk.2.1⟩)) hg hat); have n1_ := Aside0.mk (Kd.R_after (ok := (fun _ => True)) (by (with_reducible repeat (first | apply Kd.R_alloc | apply Kd.R_drewN | apply Kd.R_drew)); exact Kd.R_mono HO_6.out (fun _ hk => ⟨trivial, hk⟩)) hg hat); have n2_ := Aside0.mk (Kd.V_afterv (ok := (fun k_ => some k_ ≠ (.slice Ao45 t196.length co45 : Value).ownBlock ∧ some k_ ≠ (u6 : Value).ownBlock ∧ k_ ≠ gb204)) (by (with_reducible repeat (first | apply Kd.V_alloc | apply Kd.V_drewN | apply Kd.V_drew)); exact Kd.V_mono HO_205002.out (fun _ hk => ⟨⟨hk.1, ⟨hk.2.1, hk.2.2.2⟩⟩, hk.2.2.1⟩)) hg hat); have n3_ := Aside0.mk (blk_grown (g := gb204) (o := .cells #[.int .i64 t199, .string t200, .slice Ao10 t201.length co10] 39 (0, 0)) (by (with_reducible repeat (first | refine blk_drewN ?_ _ | refine blk_drew ?_ | refine blk_alloc ?_ _)); exact BK204.out) hg (Kd.R_ne HO_8.out BK204.out (by decide))); have n4_ := Aside0.mk (hb); have n5_ := Aside0.mk (ho); clear HO_4; clear HO_6; clear HO_205002; clear BK204; clear HB; clear HO_8; have HO_4 := n0_; have HO_6 := n1_; have HO_205002 := n2_; have BK204 := n3_; have HB := n4_; have HO211 := n5_; clear n0_ n1_ n2_ n3_ n4_ n5_; clear ho hb hg hat; obtain ⟨Ao48, co48, eo48⟩ := Kd.R_slice HO211.out; subst eo48; obtain ⟨Ao49, co49, eo49⟩ := Kd.R_slice HO_6.out; subst eo49) | (go_at_call 49; (with_reducible refine (selvedgeref01_Same.calls k2 _ _ y209 _ _ x6_1 true _ ?side1 ?side2 ?side3 ?side4 A34.out).mono ?_); (case side1 => repeat (first | exact (Kd.R_reads' HO211.out).2.2 | (with_reducible refine Kd.C_alloc ?_ _) | (with_reducible refine Kd.C_drewN ?_ _) | (with_reducible refine Kd.C_drew ?_))); (case side2 => exact (Kd.R_reads' HO211.out).2.1); (case side3 => repeat (first | exact (Kd.R_reads' HO_6.out).2.2 | (with_reducible refine Kd.C_alloc ?_ _) | (with_reducible refine Kd.C_drewN ?_ _) | (with_reducible refine Kd.C_drew ?_))); (case side4 => exact (Kd.R_reads' HO_6.out).2.1); rintro e w' ⟨rfl, ⟨nd, rfl⟩⟩) | (go_at_call 50; (with_reducible refine (selvedgeref15_Chained.calls k2 _ _ t196 0 (⟨#[]⟩ : ByteArray) false _ ?side1 ?side2 A36.out).mono ?_); (case side1 => repeat (first | exact (Kd.N_reads' HO_4.out).2.2 | (with_reducible refine Kd.C_alloc ?_ _) | (with_reducible refine Kd.C_drewN ?_ _) | (with_reducible refine Kd.C_drew ?_))); (case side2 => exact (Kd.N_reads' HO_4.out).2.1); rintro e w50 ⟨rfl, hb⟩; have n0_ := Aside0.mk (Kd.N_below (by (with_reducible repeat (first | apply Kd.N_alloc | apply Kd.N_drewN | apply Kd.N_drew)); exact HO_4.out) hb); have n1_ := Aside0.mk (Kd.R_below (by (with_reducible repeat (first | apply Kd.R_alloc | apply Kd.R_drewN | apply Kd.R_drew)); exact HO_6.out) hb); have n2_ := Aside0.mk (Kd.V_below (by (with_reducible repeat (first | apply Kd.V_alloc | apply Kd.V_drewN | apply Kd.V_drew)); exact HO_205002.out) hb); have n3_ := Aside0.mk (Kd.R_below (by (with_reducible repeat (first | apply Kd.R_alloc | apply Kd.R_drewN | apply Kd.R_drew)); exact HO211.out) hb); have n4_ := Aside0.mk (blk_below (g := gb204) (o := .cells #[.int .i64 t199, .string t200, .slice Ao10 t201.length co10] 39 (0, 0)) (by (with_reducible repeat (first | refine blk_drewN ?_ _ | refine blk_drew ?_ | refine blk_alloc ?_ _)); exact BK204.out) hb); have n5_ := Aside0.mk (below_step (by repeat (first | (with_reducible first | exact HB.out | apply below_alloc | apply pw_below_drewN | apply below_drew1 | refine below_set ?_ GE204.out) | exact HB.out)) hb); clear HO_4; clear HO_6; clear HO_205002; clear HO211; clear BK204; clear HB; have HO_4 := n0_; have HO_6 := n1_; have HO_205002 := n2_; have HO211 := n3_; have BK204 := n4_; have HB := n5_; clear n0_ n1_ n2_ n3_ n4_ n5_; (try clear hb); (try clear hb2); (try clear hk); (try clear hi)))
                        go_ret
                        exact ⟨by first | rfl | (simp [errW_none, errW_some] <;> rfl) | (simp [*, errW_none, errW_some] <;> rfl), by repeat (first | (with_reducible first | exact HB.out | apply below_alloc | apply pw_below_drewN | apply below_drew1 | refine below_set ?_ GE204.out) | exact HB.out)⟩
                    · replace c35 := Bool.eq_false_iff.mpr c35
                      subst c35
                      have H1 : (some false) = some r := by rw [if_neg (show ¬ (false = true) by decide)] at H; exact H
                      clear H
                      have H := H1
                      clear H1
                      obtain rfl := Option.some.inj H
                      obtain ⟨Ao51, co51, eo51⟩ := Kd.N_slice HO_4.out
                      subst eo51
                      have hcz52_0 : wr.cell? ⟨gb204, 0, none⟩ = some (.int .i64 t199) := (blk_cell BK204.out 0).trans rfl
                      have hcz52_1 : wr.cell? ⟨gb204, 1, none⟩ = some (.string t200) := (blk_cell BK204.out 1).trans rfl
                      have hcz52_2 : wr.cell? ⟨gb204, 2, none⟩ = some (.slice Ao10 t201.length co10) := (blk_cell BK204.out 2).trans rfl
                      have hfz52_0 := blk_frozen BK204.out 0
                      have hfz52_1 := blk_frozen BK204.out 1
                      have hfz52_2 := blk_frozen BK204.out 2
                      go_wp2_with (first | ((with_reducible refine gate_builtin (b := .append) (xs := #[.tmp 107, .tmp 109]) rfl ?_); (try (refine gate_guard (by rfl) ?_; dsimp only)); at_builtin; refine Kd.R_append_rows Kd.string (w0 := w) w.heap.size rfl (.tmp 107) (.tmp 109) 37 9 (.string ⟨#[]⟩) 16 rfl Try.underlying37 info9 rfl (by decide) (by omega) u8 x8_2 t201 _ _ _ (fun k_ => some k_ ≠ (u6 : Value).ownBlock) (fun _ => False) rfl rfl ?aO ?aR (fun _ _ h => h) (fun _ h => h.elim) ?aF ?aB ?aS ?aL ?_; (case aR => repeat (first | exact (Kd.V_reads' HO_205002.out).2.2 | (with_reducible refine Kd.C_alloc ?_ _) | (with_reducible refine Kd.C_drewN ?_ _) | (with_reducible refine Kd.C_drew ?_))); (case aB => exact (by repeat (first | (with_reducible first | exact HB.out | apply below_alloc | apply pw_below_drewN | apply below_drew1 | refine below_set ?_ GE204.out) | exact HB.out))); (case aF => exact (fun k_ hk => Kd.fresh' (Kd.R_lt (by (with_reducible repeat (first | apply Kd.R_alloc | apply Kd.R_drewN | apply Kd.R_drew)); exact HO_6.out)) k_ hk)); (case aO => exact (by (with_reducible repeat (first | apply Kd.R_alloc | apply Kd.R_drewN | apply Kd.R_drew)); exact HO_8.out)); (case aS => exact (below_size (by repeat (first | (with_reducible first | exact HB.out | apply below_alloc | apply pw_below_drewN | apply below_drew1 | refine below_set ?_ GE204.out) | exact HB.out)))); (case aL => have := LMc32.out; omega); intro v210 w53 ho hb hg hat; rw [← Ny209.out] at ho; have n0_ := Aside0.mk (Kd.N_afterv (ok := (fun k_ => some k_ ≠ (u6 : Value).ownBlock ∧ k_ ≠ gb204)) (by (with_reducible repeat (first | apply Kd.N_alloc | apply Kd.N_drewN | apply Kd.N_drew)); exact Kd.N_mono HO_4.out (fun _ hk => ⟨⟨hk.1, hk.2.2⟩, hk.2.1⟩)) hg hat); have n1_ := Aside0.mk (Kd.R_after (ok := (fun _ => True)) (by (with_reducible repeat (first | apply Kd.R_alloc | apply Kd.R_drewN | apply Kd.R_drew)); exact Kd.R_mono HO_6.out (fun _ hk => ⟨trivial, hk⟩)) hg hat); have n2_ := Aside0.mk (Kd.V_afterv (ok := (fun k_ => some k_ ≠ (.slice Ao51 t196.length co51 : Value).ownBlock ∧ some k_ ≠ (u6 : Value).ownBlock ∧ k_ ≠ gb204)) (by (with_reducible repeat (first | apply Kd.V_alloc | apply Kd.V_drewN | apply Kd.V_drew)); exact Kd.V_mono HO_205002.out (fun _ hk => ⟨⟨hk.1, ⟨hk.2.1, hk.2.2.2⟩⟩, hk.2.2.1⟩)) hg hat); have n3_ := Aside0.mk (blk_grown (g := gb204) (o := .cells #[.int .i64 t199, .string t200, .slice Ao10 t201.length co10] 39 (0, 0)) (by (with_reducible repeat (first | refine blk_drewN ?_ _ | refine blk_drew ?_ | refine blk_alloc ?_ _)); exact BK204.out) hg (Kd.R_ne HO_8.out BK204.out (by decide))); have n4_ := Aside0.mk (hb); have n5_ := Aside0.mk (ho); clear HO_4; clear HO_6; clear HO_205002; clear BK204; clear HB; clear HO_8; have HO_4 := n0_; have HO_6 := n1_; have HO_205002 := n2_; have BK204 := n3_; have HB := n4_; have HO211 := n5_; clear n0_ n1_ n2_ n3_ n4_ n5_; clear ho hb hg hat; obtain ⟨Ao54, co54, eo54⟩ := Kd.R_slice HO211.out; subst eo54; obtain ⟨Ao55, co55, eo55⟩ := Kd.R_slice HO_6.out; subst eo55) | (go_at_call 49; (with_reducible refine (selvedgeref01_Same.calls k2 _ _ y209 _ _ x6_1 false _ ?side1 ?side2 ?side3 ?side4 A34.out).mono ?_); (case side1 => repeat (first | exact (Kd.R_reads' HO211.out).2.2 | (with_reducible refine Kd.C_alloc ?_ _) | (with_reducible refine Kd.C_drewN ?_ _) | (with_reducible refine Kd.C_drew ?_))); (case side2 => exact (Kd.R_reads' HO211.out).2.1); (case side3 => repeat (first | exact (Kd.R_reads' HO_6.out).2.2 | (with_reducible refine Kd.C_alloc ?_ _) | (with_reducible refine Kd.C_drewN ?_ _) | (with_reducible refine Kd.C_drew ?_))); (case side4 => exact (Kd.R_reads' HO_6.out).2.1); rintro e w' ⟨rfl, ⟨nd, rfl⟩⟩))
                      go_ret
                      exact ⟨by first | rfl | (simp [errW_none, errW_some] <;> rfl) | (simp [*, errW_none, errW_some] <;> rfl), by repeat (first | (with_reducible first | exact HB.out | apply below_alloc | apply pw_below_drewN | apply below_drew1 | refine below_set ?_ GE204.out) | exact HB.out)⟩
                  · replace c33 := Bool.eq_false_iff.mpr c33
                    subst c33
                    have H1 : (some false) = some r := by rw [if_neg (show ¬ (false = true) by decide)] at H; exact H
                    clear H
                    have H := H1
                    clear H1
                    obtain rfl := Option.some.inj H
                    obtain ⟨Ao56, co56, eo56⟩ := Kd.N_slice HO_4.out
                    subst eo56
                    have hcz57_0 : wr.cell? ⟨gb204, 0, none⟩ = some (.int .i64 t199) := (blk_cell BK204.out 0).trans rfl
                    have hcz57_1 : wr.cell? ⟨gb204, 1, none⟩ = some (.string t200) := (blk_cell BK204.out 1).trans rfl
                    have hcz57_2 : wr.cell? ⟨gb204, 2, none⟩ = some (.slice Ao10 t201.length co10) := (blk_cell BK204.out 2).trans rfl
                    have hfz57_0 := blk_frozen BK204.out 0
                    have hfz57_1 := blk_frozen BK204.out 1
                    have hfz57_2 := blk_frozen BK204.out 2
                    go_wp2_with (first | ((with_reducible refine gate_builtin (b := .append) (xs := #[.tmp 107, .tmp 109]) rfl ?_); (try (refine gate_guard (by rfl) ?_; dsimp only)); at_builtin; refine Kd.R_append_rows Kd.string (w0 := w) w.heap.size rfl (.tmp 107) (.tmp 109) 37 9 (.string ⟨#[]⟩) 16 rfl Try.underlying37 info9 rfl (by decide) (by omega) u8 x8_2 t201 _ _ _ (fun k_ => some k_ ≠ (u6 : Value).ownBlock) (fun _ => False) rfl rfl ?aO ?aR (fun _ _ h => h) (fun _ h => h.elim) ?aF ?aB ?aS ?aL ?_; (case aR => repeat (first | exact (Kd.V_reads' HO_205002.out).2.2 | (with_reducible refine Kd.C_alloc ?_ _) | (with_reducible refine Kd.C_drewN ?_ _) | (with_reducible refine Kd.C_drew ?_))); (case aB => exact (by repeat (first | (with_reducible first | exact HB.out | apply below_alloc | apply pw_below_drewN | apply below_drew1 | refine below_set ?_ GE204.out) | exact HB.out))); (case aF => exact (fun k_ hk => Kd.fresh' (Kd.R_lt (by (with_reducible repeat (first | apply Kd.R_alloc | apply Kd.R_drewN | apply Kd.R_drew)); exact HO_6.out)) k_ hk)); (case aO => exact (by (with_reducible repeat (first | apply Kd.R_alloc | apply Kd.R_drewN | apply Kd.R_drew)); exact HO_8.out)); (case aS => exact (below_size (by repeat (first | (with_reducible first | exact HB.out | apply below_alloc | apply pw_below_drewN | apply below_drew1 | refine below_set ?_ GE204.out) | exact HB.out)))); (case aL => have := LMc32.out; omega); intro v210 w58 ho hb hg hat; rw [← Ny209.out] at ho; have n0_ := Aside0.mk (Kd.N_afterv (ok := (fun k_ => some k_ ≠ (u6 : Value).ownBlock ∧ k_ ≠ gb204)) (by (with_reducible repeat (first | apply Kd.N_alloc | apply Kd.N_drewN | apply Kd.N_drew)); exact Kd.N_mono HO_4.out (fun _ hk => ⟨⟨hk.1, hk.2.2⟩, hk.2.1⟩)) hg hat); have n1_ := Aside0.mk (Kd.R_after (ok := (fun _ => True)) (by (with_reducible repeat (first | apply Kd.R_alloc | apply Kd.R_drewN | apply Kd.R_drew)); exact Kd.R_mono HO_6.out (fun _ hk => ⟨trivial, hk⟩)) hg hat); have n2_ := Aside0.mk (Kd.V_afterv (ok := (fun k_ => some k_ ≠ (.slice Ao56 t196.length co56 : Value).ownBlock ∧ some k_ ≠ (u6 : Value).ownBlock ∧ k_ ≠ gb204)) (by (with_reducible repeat (first | apply Kd.V_alloc | apply Kd.V_drewN | apply Kd.V_drew)); exact Kd.V_mono HO_205002.out (fun _ hk => ⟨⟨hk.1, ⟨hk.2.1, hk.2.2.2⟩⟩, hk.2.2.1⟩)) hg hat); have n3_ := Aside0.mk (blk_grown (g := gb204) (o := .cells #[.int .i64 t199, .string t200, .slice Ao10 t201.length co10] 39 (0, 0)) (by (with_reducible repeat (first | refine blk_drewN ?_ _ | refine blk_drew ?_ | refine blk_alloc ?_ _)); exact BK204.out) hg (Kd.R_ne HO_8.out BK204.out (by decide))); have n4_ := Aside0.mk (hb); have n5_ := Aside0.mk (ho); clear HO_4; clear HO_6; clear HO_205002; clear BK204; clear HB; clear HO_8; have HO_4 := n0_; have HO_6 := n1_; have HO_205002 := n2_; have BK204 := n3_; have HB := n4_; have HO211 := n5_; clear n0_ n1_ n2_ n3_ n4_ n5_; clear ho hb hg hat))
                    go_ret
                    exact ⟨by first | rfl | (simp [errW_none, errW_some] <;> rfl) | (simp [*, errW_none, errW_some] <;> rfl), by repeat (first | (with_reducible first | exact HB.out | apply below_alloc | apply pw_below_drewN | apply below_drew1 | refine below_set ?_ GE204.out) | exact HB.out)⟩
                · rw [if_neg c32] at H
                  exact absurd H (by simp)

end Go.Proofs.Ytefdokolbdnjnaa.PCutAll
