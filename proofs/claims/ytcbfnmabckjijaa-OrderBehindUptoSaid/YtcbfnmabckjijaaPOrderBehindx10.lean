-- written by a program of this session (pp.py), out of the kit's print and this session's contracts
import Derived.Test.YtcbfnmabckjijaaPOrderBehindx0
import Derived.Test.YtcbfnmabckjijaaPOrderBehindx9
import Derived.Test.YtcbfnmabckjijaaVOrderBehindPe
namespace Go.Proofs.Ytcbfnmabckjijaa.POrderBehind
open Go.RowKit Go.Proofs.YtcbfnmabckjijaaW.PrintWords Go.Proofs.YtcbfnmabckjijaaW.PrintLast Go.Proofs.YtcbfnmabckjijaaW.PrintMore
set_option linter.unusedVariables false
set_option linter.unusedSimpArgs false

def selvedgeref11_Entries.l0 : Nat → List (S37) → List (S37) → Int → Option (Bool)
 | 0, _, _, _ => none
 | k + 1, x0, x1, x5 => if x5 < (x0.length : Int) then (if 0 ≤ x5 then (if x5 < (x1.length : Int) then ((selvedgeref08_Same.f k ((rd_T37 x0 x5).f1.f0) ((rd_T37 x0 x5).f1.f1) ((rd_T37 x0 x5).f1.f2) ((rd_T37 x0 x5).f1.f3) ((rd_T37 x0 x5).f1.f4.f0) ((rd_T37 x0 x5).f1.f4.f1) ((rd_T37 x1 x5).f1.f0) ((rd_T37 x1 x5).f1.f1) ((rd_T37 x1 x5).f1.f2) ((rd_T37 x1 x5).f1.f3) ((rd_T37 x1 x5).f1.f4.f0) ((rd_T37 x1 x5).f1.f4.f1)).bind fun t237 => (if t237 = true then (if ((rd_T37 x0 x5).f0).toList = ((rd_T37 x1 x5).f0).toList then (selvedgeref11_Entries.l0 k x0 x1 (wrap64 (x5 + 1))) else (some false)) else (some false))) else (none)) else (none)) else (some true)
def selvedgeref11_Entries.f (k : Nat) (l0 : List (S37)) (l1 : List (S37)) : Option (Bool) := if (l0.length : Int) = (l1.length : Int) then (selvedgeref11_Entries.l0 k l0 l1 0) else (some false)
def selvedgeref11_Entries.T6 : Bool × List (List Nat × List Nat) := (true, [([], []), ([], []), ([0, 1], [0, 1]), ([2], [2]), ([3], [3]), ([], []), ([], []), ([5, 6], [5, 6]), ([7], [7]), ([8], [8]), ([4, 9], [4, 9]), ([10, 10, 0, 1, 2, 3, 4, 5, 6, 7, 8, 9, 10], [10])])
def selvedgeref11_Entries.B6 : List Nat := [0, 0, 3, 7, 15, 0, 0, 96, 224, 480, 1023, 2047]
theorem selvedgeref11_Entries.tab6 : rtab .any (opsOf Try.f28 6) = selvedgeref11_Entries.T6 := by kernel_rfl
theorem selvedgeref11_Entries.bits6 : waitsOk selvedgeref11_Entries.T6.2 selvedgeref11_Entries.B6 = true := by kernel_rfl
def selvedgeref11_Entries.T7 : Bool × List (List Nat × List Nat) := (true, [([], []), ([0], [0]), ([1], [1]), ([2], [2]), ([2], [2]), ([3, 4, 2], [2, 3, 4]), ([5, 2], [2, 5]), ([6, 2], [2, 6]), ([2], [2]), ([2], [2]), ([8, 9, 2], [2, 8, 9]), ([10, 2], [2, 10]), ([11, 2], [2, 11]), ([7, 12, 2], [2, 7, 12]), ([2, 13], [2, 13])])
def selvedgeref11_Entries.B7 : List Nat := [0, 1, 3, 7, 7, 31, 63, 127, 7, 7, 775, 1799, 3847, 8191, 16383]
theorem selvedgeref11_Entries.tab7 : rtab .any (opsOf Try.f28 7) = selvedgeref11_Entries.T7 := by kernel_rfl
theorem selvedgeref11_Entries.bits7 : waitsOk selvedgeref11_Entries.T7.2 selvedgeref11_Entries.B7 = true := by kernel_rfl
set_option maxHeartbeats 8000000 in
set_option maxRecDepth 100000 in
theorem selvedgeref11_Entries.calls (k : Nat) (A0 : Option Addr) (c0 : Nat) (l0 : List (S37)) (A1 : Option Addr) (c1 : Nat) (l1 : List (S37)) (r : Bool) (w : World) (hr0 : Kd.C k37 w A0 l0.length l0) (hc0 : l0.length ≤ c0) (hr1 : Kd.C k37 w A1 l1.length l1) (hc1 : l1.length ≤ c1) (h : selvedgeref11_Entries.f k l0 l1 = some r) :
  Calls Try.prog 28 #[.slice A0 l0.length c0, .slice A1 l1.length c1] w fun e w' => e = .returned (.bool r) ∧ Below w.heap.size w w' := by
 have hu35 := Try.underlying35
 have HR0 := Aside0.mk hr0
 have HC0 := Aside0.mk hc0
 clear hr0 hc0
 have HR1 := Aside0.mk hr1
 have HC1 := Aside0.mk hc1
 clear hr1 hc1
 have HB := Aside0.mk (Below.refl w.heap.size w)
 have H : (if (l0.length : Int) = (l1.length : Int) then (selvedgeref11_Entries.l0 k l0 l1 0) else (some false)) = some r := h
 clear h
 by_cases c3 : (l0.length : Int) = (l1.length : Int)
 ·
  rw [if_pos c3] at H
  have c3b0 : ((l0.length : Int) == (l1.length : Int)) = true := beq_iff_eq.mpr c3
  have c3b1 : ((l0.length : Int) != (l1.length : Int)) = false := bne_eq_false_iff_eq.mpr c3
  have c3b2 : (l0.length == l1.length) = true := by first | simpa using c3 | (simp at c3 ⊢; omega)
  clear c3
  have H' := Aside0.mk H
  clear H
  go_enter Try.func28, Try.ntmps28
  go_wp2
  go_loopg [5] k (fun kq v5 w' => ∃ (x5_1 : Int), v5 = .int .i64 x5_1 ∧ Aside0 (selvedgeref11_Entries.l0 kq l0 l1 x5_1 = some r) ∧ Aside0 (kq ≤ k) ∧ Aside0 (Below w.heap.size w w'))
  case atStart => exact ⟨(0), (by first | rfl | (simp; done) | (simp [*]; done)), H', ⟨Nat.le_refl _⟩, ⟨by repeat (first | (with_reducible first | exact HB.out | apply below_alloc | apply pw_below_drewN | apply below_drew1) | exact HB.out)⟩⟩
  case round =>
   clear H'
   try clear c1
   try clear c2
   try clear p2
   try clear c3
   try clear c3b0
   try clear c3b1
   try clear c3b2
   obtain ⟨x5_1, rfl, HA, HK1, HB⟩ := hrel
   cases gk with
   | zero => exact absurd HA.out (by simp [selvedgeref11_Entries.l0])
   | succ k1 =>
    have H := HA.out
    clear HA
    simp only [selvedgeref11_Entries.l0] at H
    by_cases c4 : x5_1 < (l0.length : Int)
    ·
     rw [if_pos c4] at H
     have c4b0 : decide (x5_1 < (l0.length : Int)) = true := decide_eq_true c4
     clear c4
     by_cases c5 : 0 ≤ x5_1
     ·
      rw [if_pos c5] at H
      have c5b0 : decide (0 ≤ x5_1) = true := decide_eq_true c5
      clear c5
      by_cases c6 : x5_1 < (l1.length : Int)
      ·
       rw [if_pos c6] at H
       have c6b0 : decide (x5_1 < (l1.length : Int)) = true := decide_eq_true c6
       clear c6
       replace H := Option.bind_eq_some_iff.mp H
       obtain ⟨t237, A70, H⟩ := H
       replace H : (if t237 = true then (if ((rd_T37 l0 x5_1).f0).toList = ((rd_T37 l1 x5_1).f0).toList then (selvedgeref11_Entries.l0 k1 l0 l1 (wrap64 (x5_1 + 1))) else (some false)) else (some false)) = some r := H
       have A7 := Aside0.mk A70
       clear A70
       by_cases c8 : t237 = true
       ·
        subst c8
        have H1 : (if ((rd_T37 l0 x5_1).f0).toList = ((rd_T37 l1 x5_1).f0).toList then (selvedgeref11_Entries.l0 k1 l0 l1 (wrap64 (x5_1 + 1))) else (some false)) = some r := by rw [if_pos rfl] at H; exact H
        clear H
        have H := H1
        clear H1
        by_cases c9 : ((rd_T37 l0 x5_1).f0).toList = ((rd_T37 l1 x5_1).f0).toList
        ·
         rw [if_pos c9] at H
         have c9b0 : (((rd_T37 l0 x5_1).f0).toList == ((rd_T37 l1 x5_1).f0).toList) = true := beq_iff_eq.mpr c9
         have c9b1 : (((rd_T37 l0 x5_1).f0).toList != ((rd_T37 l1 x5_1).f0).toList) = false := bne_eq_false_iff_eq.mpr c9
         clear c9
         have H' := Aside0.mk H
         clear H
         try go_wp2
         have n0_ := Aside0.mk (below_drew1 HB.out)
         clear HB
         have HB := n0_
         clear n0_
         have p235 : 0 ≤ (x5_1 : Int) := of_decide_eq_true (by first | (with_reducible assumption) | assumption)
         have q235 : x5_1 < (l0.length : Int) := of_decide_eq_true (by first | (with_reducible assumption) | assumption)
         obtain ⟨ad235, A235_3, c235_3, A235_4, c235_4, e235, hx235_0, hx235_1, hx235_2, hx235_3, hx235_4, hx235_5, hx235_6, hl235_3, hi235_3, hl235_4, hi235_4⟩ := at_T37 HR0.out x5_1 p235 q235
         have hw235_6 := hx235_6
         have hw235_5 := hx235_5
         have hw235_4 := hx235_4
         have hw235_3 := hx235_3
         have hw235_2 := hx235_2
         have hw235_1 := hx235_1
         have hw235_0 := hx235_0
         cases e235
         replace hx235_0 := (HB.out.cell (World.block_lt_of_cell? w _ hx235_0)).trans hx235_0
         replace hx235_1 := (HB.out.cell (World.block_lt_of_cell? w _ hx235_1)).trans hx235_1
         replace hx235_2 := (HB.out.cell (World.block_lt_of_cell? w _ hx235_2)).trans hx235_2
         replace hx235_3 := (HB.out.cell (World.block_lt_of_cell? w _ hx235_3)).trans hx235_3
         replace hx235_4 := (HB.out.cell (World.block_lt_of_cell? w _ hx235_4)).trans hx235_4
         replace hx235_5 := (HB.out.cell (World.block_lt_of_cell? w _ hx235_5)).trans hx235_5
         replace hx235_6 := (HB.out.cell (World.block_lt_of_cell? w _ hx235_6)).trans hx235_6
         have HR235_3 := Aside0.mk hi235_3
         have HC235_3 := Aside0.mk hl235_3
         clear hi235_3 hl235_3
         have HR235_4 := Aside0.mk hi235_4
         have HC235_4 := Aside0.mk hl235_4
         clear hi235_4 hl235_4
         replace p235 := eq_true p235
         replace q235 := eq_true q235
         have p236 : 0 ≤ (x5_1 : Int) := of_decide_eq_true (by first | (with_reducible assumption) | assumption)
         have q236 : x5_1 < (l1.length : Int) := of_decide_eq_true (by first | (with_reducible assumption) | assumption)
         obtain ⟨ad236, A236_3, c236_3, A236_4, c236_4, e236, hx236_0, hx236_1, hx236_2, hx236_3, hx236_4, hx236_5, hx236_6, hl236_3, hi236_3, hl236_4, hi236_4⟩ := at_T37 HR1.out x5_1 p236 q236
         have hw236_6 := hx236_6
         have hw236_5 := hx236_5
         have hw236_4 := hx236_4
         have hw236_3 := hx236_3
         have hw236_2 := hx236_2
         have hw236_1 := hx236_1
         have hw236_0 := hx236_0
         cases e236
         replace hx236_0 := (HB.out.cell (World.block_lt_of_cell? w _ hx236_0)).trans hx236_0
         replace hx236_1 := (HB.out.cell (World.block_lt_of_cell? w _ hx236_1)).trans hx236_1
         replace hx236_2 := (HB.out.cell (World.block_lt_of_cell? w _ hx236_2)).trans hx236_2
         replace hx236_3 := (HB.out.cell (World.block_lt_of_cell? w _ hx236_3)).trans hx236_3
         replace hx236_4 := (HB.out.cell (World.block_lt_of_cell? w _ hx236_4)).trans hx236_4
         replace hx236_5 := (HB.out.cell (World.block_lt_of_cell? w _ hx236_5)).trans hx236_5
         replace hx236_6 := (HB.out.cell (World.block_lt_of_cell? w _ hx236_6)).trans hx236_6
         have HR236_3 := Aside0.mk hi236_3
         have HC236_3 := Aside0.mk hl236_3
         clear hi236_3 hl236_3
         have HR236_4 := Aside0.mk hi236_4
         have HC236_4 := Aside0.mk hl236_4
         clear hi236_4 hl236_4
         replace p236 := eq_true p236
         replace q236 := eq_true q236
         refine start_ (n := 12) (S := fun w' => w'.cell? (ad235.add ((x5_1).toNat * 7)) = some (.string ((rd_T37 l0 x5_1).f0)) ∧ w'.cell? ⟨(ad235.add ((x5_1).toNat * 7)).block, (ad235.add ((x5_1).toNat * 7)).off + 1, none⟩ = some (.int .i64 ((rd_T37 l0 x5_1).f1.f0)) ∧ w'.cell? ⟨(ad235.add ((x5_1).toNat * 7)).block, (ad235.add ((x5_1).toNat * 7)).off + 2, none⟩ = some (.int .i64 ((rd_T37 l0 x5_1).f1.f1)) ∧ w'.cell? ⟨(ad235.add ((x5_1).toNat * 7)).block, (ad235.add ((x5_1).toNat * 7)).off + 3, none⟩ = some (.slice A235_3 ((rd_T37 l0 x5_1).f1.f2).length c235_3) ∧ w'.cell? ⟨(ad235.add ((x5_1).toNat * 7)).block, (ad235.add ((x5_1).toNat * 7)).off + 4, none⟩ = some (.slice A235_4 ((rd_T37 l0 x5_1).f1.f3).length c235_4) ∧ w'.cell? ⟨(ad235.add ((x5_1).toNat * 7)).block, (ad235.add ((x5_1).toNat * 7)).off + 5, none⟩ = some (.int .i64 ((rd_T37 l0 x5_1).f1.f4.f0)) ∧ w'.cell? ⟨(ad235.add ((x5_1).toNat * 7)).block, (ad235.add ((x5_1).toNat * 7)).off + 6, none⟩ = some (.int .i64 ((rd_T37 l0 x5_1).f1.f4.f1)) ∧ w'.cell? (ad236.add ((x5_1).toNat * 7)) = some (.string ((rd_T37 l1 x5_1).f0)) ∧ w'.cell? ⟨(ad236.add ((x5_1).toNat * 7)).block, (ad236.add ((x5_1).toNat * 7)).off + 1, none⟩ = some (.int .i64 ((rd_T37 l1 x5_1).f1.f0)) ∧ w'.cell? ⟨(ad236.add ((x5_1).toNat * 7)).block, (ad236.add ((x5_1).toNat * 7)).off + 2, none⟩ = some (.int .i64 ((rd_T37 l1 x5_1).f1.f1)) ∧ w'.cell? ⟨(ad236.add ((x5_1).toNat * 7)).block, (ad236.add ((x5_1).toNat * 7)).off + 3, none⟩ = some (.slice A236_3 ((rd_T37 l1 x5_1).f1.f2).length c236_3) ∧ w'.cell? ⟨(ad236.add ((x5_1).toNat * 7)).block, (ad236.add ((x5_1).toNat * 7)).off + 4, none⟩ = some (.slice A236_4 ((rd_T37 l1 x5_1).f1.f3).length c236_4) ∧ w'.cell? ⟨(ad236.add ((x5_1).toNat * 7)).block, (ad236.add ((x5_1).toNat * 7)).off + 5, none⟩ = some (.int .i64 ((rd_T37 l1 x5_1).f1.f4.f0)) ∧ w'.cell? ⟨(ad236.add ((x5_1).toNat * 7)).block, (ad236.add ((x5_1).toNat * 7)).off + 6, none⟩ = some (.int .i64 ((rd_T37 l1 x5_1).f1.f4.f1))) (ds := []) #[false, false, false, false, false, false, false, false, false, false, false, false] (by kernel_rfl) rfl rfl ⟨((HB.out.cell (World.block_lt_of_cell? w _ hw235_0)).trans (by first | exact hw235_0)), ((HB.out.cell (World.block_lt_of_cell? w _ hw235_1)).trans (by first | exact hw235_1)), ((HB.out.cell (World.block_lt_of_cell? w _ hw235_2)).trans (by first | exact hw235_2)), ((HB.out.cell (World.block_lt_of_cell? w _ hw235_3)).trans (by first | exact hw235_3)), ((HB.out.cell (World.block_lt_of_cell? w _ hw235_4)).trans (by first | exact hw235_4)), ((HB.out.cell (World.block_lt_of_cell? w _ hw235_5)).trans (by first | exact hw235_5)), ((HB.out.cell (World.block_lt_of_cell? w _ hw235_6)).trans (by first | exact hw235_6)), ((HB.out.cell (World.block_lt_of_cell? w _ hw236_0)).trans (by first | exact hw236_0)), ((HB.out.cell (World.block_lt_of_cell? w _ hw236_1)).trans (by first | exact hw236_1)), ((HB.out.cell (World.block_lt_of_cell? w _ hw236_2)).trans (by first | exact hw236_2)), ((HB.out.cell (World.block_lt_of_cell? w _ hw236_3)).trans (by first | exact hw236_3)), ((HB.out.cell (World.block_lt_of_cell? w _ hw236_4)).trans (by first | exact hw236_4)), ((HB.out.cell (World.block_lt_of_cell? w _ hw236_5)).trans (by first | exact hw236_5)), ((HB.out.cell (World.block_lt_of_cell? w _ hw236_6)).trans (by first | exact hw236_6))⟩ (fun hHeld => ?_); refine with_tabW selvedgeref11_Entries.tab6 selvedgeref11_Entries.bits6 (fun HT_ HW_ => ?_)
         generalize wr.drew = w10 at HB HR235_3 HR235_4 HR236_3 HR236_4 hx235_0 hx235_1 hx235_2 hx235_3 hx235_4 hx235_5 hx235_6 hx236_0 hx236_1 hx236_2 hx236_3 hx236_4 hx236_5 hx236_6 hHeld ⊢
         refine pure_ (i := 0) (N := some 18) (v := ?_) (a' := ?_) #[true, false, false, false, false, false, false, false, false, false, false, false] rfl rfl (any_of HT_.out (by kernel_rfl)) (fun _ _ _ h => h) (Or.inl ⟨by rfl, ?_⟩) ?_ ?_
         rotate_left
         ·
          intro w'
          go_simp
          with_reducible rfl
         rotate_left
         ·
          simp only [Act.put, List.setIfInBounds_toArray, List.set_cons_zero, List.set_cons_succ, i64_w, i32_w]
          rfl
         refine pure_ (i := 1) (N := some 19) (v := ?_) (a' := ?_) #[true, true, false, false, false, false, false, false, false, false, false, false] rfl rfl (any_of HT_.out (by kernel_rfl)) (fun _ _ _ h => h) (Or.inl ⟨by rfl, ?_⟩) ?_ ?_
         rotate_left
         ·
          intro w'
          go_simp
          with_reducible rfl
         rotate_left
         ·
          simp only [Act.put, List.setIfInBounds_toArray, List.set_cons_zero, List.set_cons_succ, i64_w, i32_w]
          rfl
         refine pure_ (i := 2) (N := some 20) (v := ?_) (a' := ?_) #[true, true, true, false, false, false, false, false, false, false, false, false] rfl rfl (any_of HT_.out (by kernel_rfl)) (fun _ _ _ h => h) (Or.inl ⟨by rfl, ?_⟩) ?_ ?_
         rotate_left
         ·
          intro w'
          go_simp
          with_reducible rfl
         rotate_left
         ·
          simp only [Act.put, List.setIfInBounds_toArray, List.set_cons_zero, List.set_cons_succ, i64_w, i32_w]
          rfl
         refine pure_ (i := 3) (N := some 21) (v := ?_) (a' := ?_) #[true, true, true, true, false, false, false, false, false, false, false, false] rfl rfl (any_of HT_.out (by kernel_rfl)) (fun _ _ _ h => h) (Or.inl ⟨by rfl, ?_⟩) ?_ ?_
         rotate_left
         ·
          intro w'
          go_simp
          with_reducible rfl
         rotate_left
         ·
          simp only [Act.put, List.setIfInBounds_toArray, List.set_cons_zero, List.set_cons_succ, i64_w, i32_w]
          rfl
         refine pure_ (i := 5) (N := some 23) (v := ?_) (a' := ?_) #[true, true, true, true, false, true, false, false, false, false, false, false] rfl rfl (any_of HT_.out (by kernel_rfl)) (fun _ _ _ h => h) (Or.inl ⟨by rfl, ?_⟩) ?_ ?_
         rotate_left
         ·
          intro w'
          go_simp
          with_reducible rfl
         rotate_left
         ·
          simp only [Act.put, List.setIfInBounds_toArray, List.set_cons_zero, List.set_cons_succ, i64_w, i32_w]
          rfl
         refine pure_ (i := 6) (N := some 24) (v := ?_) (a' := ?_) #[true, true, true, true, false, true, true, false, false, false, false, false] rfl rfl (any_of HT_.out (by kernel_rfl)) (fun _ _ _ h => h) (Or.inl ⟨by rfl, ?_⟩) ?_ ?_
         rotate_left
         ·
          intro w'
          go_simp
          with_reducible rfl
         rotate_left
         ·
          simp only [Act.put, List.setIfInBounds_toArray, List.set_cons_zero, List.set_cons_succ, i64_w, i32_w]
          rfl
         refine pure_ (i := 7) (N := some 25) (v := ?_) (a' := ?_) #[true, true, true, true, false, true, true, true, false, false, false, false] rfl rfl (any_of HT_.out (by kernel_rfl)) (fun _ _ _ h => h) (Or.inl ⟨by rfl, ?_⟩) ?_ ?_
         rotate_left
         ·
          intro w'
          go_simp
          with_reducible rfl
         rotate_left
         ·
          simp only [Act.put, List.setIfInBounds_toArray, List.set_cons_zero, List.set_cons_succ, i64_w, i32_w]
          rfl
         refine pure_ (i := 8) (N := some 26) (v := ?_) (a' := ?_) #[true, true, true, true, false, true, true, true, true, false, false, false] rfl rfl (any_of HT_.out (by kernel_rfl)) (fun _ _ _ h => h) (Or.inl ⟨by rfl, ?_⟩) ?_ ?_
         rotate_left
         ·
          intro w'
          go_simp
          with_reducible rfl
         rotate_left
         ·
          simp only [Act.put, List.setIfInBounds_toArray, List.set_cons_zero, List.set_cons_succ, i64_w, i32_w]
          rfl
         refine take_ (i := 4) (N := some 22) (v := ?_) (a' := ?_) #[true, true, true, true, true, true, true, true, true, false, false, false] rfl rfl (take_ofW HT_.out HW_.out (by kernel_rfl)) (fun _ _ _ h => h) (Or.inl ⟨by rfl, ?_⟩) hHeld ?_ ?_
         rotate_left
         ·
          rintro w' ⟨s0, s1, s2, s3, s4, s5, s6, s7, s8, s9, s10, s11, s12, s13⟩
          go_simp
          with_reducible rfl
         rotate_left
         ·
          simp only [Act.put, List.setIfInBounds_toArray, List.set_cons_zero, List.set_cons_succ, i64_w, i32_w]
          rfl
         refine take_ (i := 9) (N := some 27) (v := ?_) (a' := ?_) #[true, true, true, true, true, true, true, true, true, true, false, false] rfl rfl (take_ofW HT_.out HW_.out (by kernel_rfl)) (fun _ _ _ h => h) (Or.inl ⟨by rfl, ?_⟩) hHeld ?_ ?_
         rotate_left
         ·
          rintro w' ⟨s0, s1, s2, s3, s4, s5, s6, s7, s8, s9, s10, s11, s12, s13⟩
          go_simp
          with_reducible rfl
         rotate_left
         ·
          simp only [Act.put, List.setIfInBounds_toArray, List.set_cons_zero, List.set_cons_succ, i64_w, i32_w]
          rfl
         refine one_ (i := 10) (N := some 28) #[true, true, true, true, true, true, true, true, true, true, true, false] rfl rfl (one_of HT_.out (by kernel_rfl)) (by decide) (fun K hK => ?_)
         refine goes_ Try.func57 (by kernel_rfl) rfl #[.agg #[.int .i64 ((rd_T37 l0 x5_1).f1.f0), .int .i64 ((rd_T37 l0 x5_1).f1.f1), .slice A235_3 ((rd_T37 l0 x5_1).f1.f2).length c235_3, .slice A235_4 ((rd_T37 l0 x5_1).f1.f3).length c235_4, .int .i64 ((rd_T37 l0 x5_1).f1.f4.f0), .int .i64 ((rd_T37 l0 x5_1).f1.f4.f1)], .agg #[.int .i64 ((rd_T37 l1 x5_1).f1.f0), .int .i64 ((rd_T37 l1 x5_1).f1.f1), .slice A236_3 ((rd_T37 l1 x5_1).f1.f2).length c236_3, .slice A236_4 ((rd_T37 l1 x5_1).f1.f3).length c236_4, .int .i64 ((rd_T37 l1 x5_1).f1.f4.f0), .int .i64 ((rd_T37 l1 x5_1).f1.f4.f1)]] (by rfl) rfl rfl (by (try simp only [List.map_toArray, List.map_cons, List.map_nil]); first | done | rfl | (simp only [List.length_drop, List.length_take]; rfl)) ?_
         with_reducible refine (selvedgeref08_Same.calls k1 ((rd_T37 l0 x5_1).f1.f0) ((rd_T37 l0 x5_1).f1.f1) _ _ ((rd_T37 l0 x5_1).f1.f2) _ _ ((rd_T37 l0 x5_1).f1.f3) ((rd_T37 l0 x5_1).f1.f4.f0) ((rd_T37 l0 x5_1).f1.f4.f1) ((rd_T37 l1 x5_1).f1.f0) ((rd_T37 l1 x5_1).f1.f1) _ _ ((rd_T37 l1 x5_1).f1.f2) _ _ ((rd_T37 l1 x5_1).f1.f3) ((rd_T37 l1 x5_1).f1.f4.f0) ((rd_T37 l1 x5_1).f1.f4.f1) true _ ?side1 ?side2 ?side3 ?side4 ?side5 ?side6 ?side7 ?side8 A7.out).mono ?_
         (case side1 => repeat (first | exact (Kd.C_below HR235_3.out HB.out) | (with_reducible refine Kd.C_alloc ?_ _) | (with_reducible refine Kd.C_drewN ?_ _) | (with_reducible refine Kd.C_drew ?_)))
         (case side2 => exact HC235_3.out)
         (case side3 => repeat (first | exact (Kd.C_below HR235_4.out HB.out) | (with_reducible refine Kd.C_alloc ?_ _) | (with_reducible refine Kd.C_drewN ?_ _) | (with_reducible refine Kd.C_drew ?_)))
         (case side4 => exact HC235_4.out)
         (case side5 => repeat (first | exact (Kd.C_below HR236_3.out HB.out) | (with_reducible refine Kd.C_alloc ?_ _) | (with_reducible refine Kd.C_drewN ?_ _) | (with_reducible refine Kd.C_drew ?_)))
         (case side6 => exact HC236_3.out)
         (case side7 => repeat (first | exact (Kd.C_below HR236_4.out HB.out) | (with_reducible refine Kd.C_alloc ?_ _) | (with_reducible refine Kd.C_drewN ?_ _) | (with_reducible refine Kd.C_drew ?_)))
         (case side8 => exact HC236_4.out)
         rintro e w11 ⟨rfl, hb⟩
         refine ⟨_, rfl, ?_⟩
         have n0_ := Aside0.mk (below_step (by repeat (first | (with_reducible first | exact HB.out | apply below_alloc | apply pw_below_drewN | apply below_drew1) | exact HB.out)) hb)
         clear HB
         have HB := n0_
         clear n0_
         (try clear hb)
         (try clear hb2)
         (try clear hk)
         (try clear hi)
         refine hK.out _ _ ⟨((HB.out.cell (World.block_lt_of_cell? w _ hw235_0)).trans (by first | exact hw235_0)), ((HB.out.cell (World.block_lt_of_cell? w _ hw235_1)).trans (by first | exact hw235_1)), ((HB.out.cell (World.block_lt_of_cell? w _ hw235_2)).trans (by first | exact hw235_2)), ((HB.out.cell (World.block_lt_of_cell? w _ hw235_3)).trans (by first | exact hw235_3)), ((HB.out.cell (World.block_lt_of_cell? w _ hw235_4)).trans (by first | exact hw235_4)), ((HB.out.cell (World.block_lt_of_cell? w _ hw235_5)).trans (by first | exact hw235_5)), ((HB.out.cell (World.block_lt_of_cell? w _ hw235_6)).trans (by first | exact hw235_6)), ((HB.out.cell (World.block_lt_of_cell? w _ hw236_0)).trans (by first | exact hw236_0)), ((HB.out.cell (World.block_lt_of_cell? w _ hw236_1)).trans (by first | exact hw236_1)), ((HB.out.cell (World.block_lt_of_cell? w _ hw236_2)).trans (by first | exact hw236_2)), ((HB.out.cell (World.block_lt_of_cell? w _ hw236_3)).trans (by first | exact hw236_3)), ((HB.out.cell (World.block_lt_of_cell? w _ hw236_4)).trans (by first | exact hw236_4)), ((HB.out.cell (World.block_lt_of_cell? w _ hw236_5)).trans (by first | exact hw236_5)), ((HB.out.cell (World.block_lt_of_cell? w _ hw236_6)).trans (by first | exact hw236_6))⟩ (fun hHeld => ?_)
         clear hK K
         refine norm_ (a' := ?_) ?_ ?_
         rotate_left
         ·
          show Act.put _ (some 28) _ = _
          simp only [Act.put, List.setIfInBounds_toArray, List.set_cons_zero, List.set_cons_succ, i64_w, i32_w]
          rfl
         refine pure_ (i := 11) (N := some 6) (v := ?_) (a' := ?_) #[true, true, true, true, true, true, true, true, true, true, true, true] rfl rfl (any_of HT_.out (by kernel_rfl)) (fun _ _ _ h => h) (Or.inl ⟨by rfl, ?_⟩) ?_ ?_
         rotate_left
         ·
          intro w'
          go_simp
          with_reducible rfl
         rotate_left
         ·
          simp only [Act.put, List.setIfInBounds_toArray, List.set_cons_zero, List.set_cons_succ, i64_w, i32_w]
          rfl
         refine done_ (done_of HT_.out (by kernel_rfl)) ?_
         try go_wp2
         have n0_ := Aside0.mk (below_drew1 HB.out)
         clear HB
         have HB := n0_
         clear n0_
         have p238 : 0 ≤ (x5_1 : Int) := of_decide_eq_true (by first | (with_reducible assumption) | assumption)
         have q238 : x5_1 < (l0.length : Int) := of_decide_eq_true (by first | (with_reducible assumption) | assumption)
         obtain ⟨ad238, A238_3, c238_3, A238_4, c238_4, e238, hx238_0, hx238_1, hx238_2, hx238_3, hx238_4, hx238_5, hx238_6, hl238_3, hi238_3, hl238_4, hi238_4⟩ := at_T37 HR0.out x5_1 p238 q238
         have hw238_6 := hx238_6
         have hw238_5 := hx238_5
         have hw238_4 := hx238_4
         have hw238_3 := hx238_3
         have hw238_2 := hx238_2
         have hw238_1 := hx238_1
         have hw238_0 := hx238_0
         obtain rfl : ad235 = ad238 := (by injection e238)
         replace hx238_0 := (HB.out.cell (World.block_lt_of_cell? w _ hx238_0)).trans hx238_0
         replace hx238_1 := (HB.out.cell (World.block_lt_of_cell? w _ hx238_1)).trans hx238_1
         replace hx238_2 := (HB.out.cell (World.block_lt_of_cell? w _ hx238_2)).trans hx238_2
         replace hx238_3 := (HB.out.cell (World.block_lt_of_cell? w _ hx238_3)).trans hx238_3
         replace hx238_4 := (HB.out.cell (World.block_lt_of_cell? w _ hx238_4)).trans hx238_4
         replace hx238_5 := (HB.out.cell (World.block_lt_of_cell? w _ hx238_5)).trans hx238_5
         replace hx238_6 := (HB.out.cell (World.block_lt_of_cell? w _ hx238_6)).trans hx238_6
         have HR238_3 := Aside0.mk hi238_3
         have HC238_3 := Aside0.mk hl238_3
         clear hi238_3 hl238_3
         have HR238_4 := Aside0.mk hi238_4
         have HC238_4 := Aside0.mk hl238_4
         clear hi238_4 hl238_4
         replace p238 := eq_true p238
         replace q238 := eq_true q238
         have p239 : 0 ≤ (x5_1 : Int) := of_decide_eq_true (by first | (with_reducible assumption) | assumption)
         have q239 : x5_1 < (l1.length : Int) := of_decide_eq_true (by first | (with_reducible assumption) | assumption)
         obtain ⟨ad239, A239_3, c239_3, A239_4, c239_4, e239, hx239_0, hx239_1, hx239_2, hx239_3, hx239_4, hx239_5, hx239_6, hl239_3, hi239_3, hl239_4, hi239_4⟩ := at_T37 HR1.out x5_1 p239 q239
         have hw239_6 := hx239_6
         have hw239_5 := hx239_5
         have hw239_4 := hx239_4
         have hw239_3 := hx239_3
         have hw239_2 := hx239_2
         have hw239_1 := hx239_1
         have hw239_0 := hx239_0
         obtain rfl : ad236 = ad239 := (by injection e239)
         replace hx239_0 := (HB.out.cell (World.block_lt_of_cell? w _ hx239_0)).trans hx239_0
         replace hx239_1 := (HB.out.cell (World.block_lt_of_cell? w _ hx239_1)).trans hx239_1
         replace hx239_2 := (HB.out.cell (World.block_lt_of_cell? w _ hx239_2)).trans hx239_2
         replace hx239_3 := (HB.out.cell (World.block_lt_of_cell? w _ hx239_3)).trans hx239_3
         replace hx239_4 := (HB.out.cell (World.block_lt_of_cell? w _ hx239_4)).trans hx239_4
         replace hx239_5 := (HB.out.cell (World.block_lt_of_cell? w _ hx239_5)).trans hx239_5
         replace hx239_6 := (HB.out.cell (World.block_lt_of_cell? w _ hx239_6)).trans hx239_6
         have HR239_3 := Aside0.mk hi239_3
         have HC239_3 := Aside0.mk hl239_3
         clear hi239_3 hl239_3
         have HR239_4 := Aside0.mk hi239_4
         have HC239_4 := Aside0.mk hl239_4
         clear hi239_4 hl239_4
         replace p239 := eq_true p239
         replace q239 := eq_true q239
         refine start_ (n := 15) (S := fun w' => w'.cell? (ad235.add ((x5_1).toNat * 7)) = some (.string ((rd_T37 l0 x5_1).f0)) ∧ w'.cell? ⟨(ad235.add ((x5_1).toNat * 7)).block, (ad235.add ((x5_1).toNat * 7)).off + 1, none⟩ = some (.int .i64 ((rd_T37 l0 x5_1).f1.f0)) ∧ w'.cell? ⟨(ad235.add ((x5_1).toNat * 7)).block, (ad235.add ((x5_1).toNat * 7)).off + 2, none⟩ = some (.int .i64 ((rd_T37 l0 x5_1).f1.f1)) ∧ w'.cell? ⟨(ad235.add ((x5_1).toNat * 7)).block, (ad235.add ((x5_1).toNat * 7)).off + 3, none⟩ = some (.slice A238_3 ((rd_T37 l0 x5_1).f1.f2).length c238_3) ∧ w'.cell? ⟨(ad235.add ((x5_1).toNat * 7)).block, (ad235.add ((x5_1).toNat * 7)).off + 4, none⟩ = some (.slice A238_4 ((rd_T37 l0 x5_1).f1.f3).length c238_4) ∧ w'.cell? ⟨(ad235.add ((x5_1).toNat * 7)).block, (ad235.add ((x5_1).toNat * 7)).off + 5, none⟩ = some (.int .i64 ((rd_T37 l0 x5_1).f1.f4.f0)) ∧ w'.cell? ⟨(ad235.add ((x5_1).toNat * 7)).block, (ad235.add ((x5_1).toNat * 7)).off + 6, none⟩ = some (.int .i64 ((rd_T37 l0 x5_1).f1.f4.f1)) ∧ w'.cell? (ad236.add ((x5_1).toNat * 7)) = some (.string ((rd_T37 l1 x5_1).f0)) ∧ w'.cell? ⟨(ad236.add ((x5_1).toNat * 7)).block, (ad236.add ((x5_1).toNat * 7)).off + 1, none⟩ = some (.int .i64 ((rd_T37 l1 x5_1).f1.f0)) ∧ w'.cell? ⟨(ad236.add ((x5_1).toNat * 7)).block, (ad236.add ((x5_1).toNat * 7)).off + 2, none⟩ = some (.int .i64 ((rd_T37 l1 x5_1).f1.f1)) ∧ w'.cell? ⟨(ad236.add ((x5_1).toNat * 7)).block, (ad236.add ((x5_1).toNat * 7)).off + 3, none⟩ = some (.slice A239_3 ((rd_T37 l1 x5_1).f1.f2).length c239_3) ∧ w'.cell? ⟨(ad236.add ((x5_1).toNat * 7)).block, (ad236.add ((x5_1).toNat * 7)).off + 4, none⟩ = some (.slice A239_4 ((rd_T37 l1 x5_1).f1.f3).length c239_4) ∧ w'.cell? ⟨(ad236.add ((x5_1).toNat * 7)).block, (ad236.add ((x5_1).toNat * 7)).off + 5, none⟩ = some (.int .i64 ((rd_T37 l1 x5_1).f1.f4.f0)) ∧ w'.cell? ⟨(ad236.add ((x5_1).toNat * 7)).block, (ad236.add ((x5_1).toNat * 7)).off + 6, none⟩ = some (.int .i64 ((rd_T37 l1 x5_1).f1.f4.f1))) (ds := []) #[false, false, false, false, false, false, false, false, false, false, false, false, false, false, false] (by kernel_rfl) rfl rfl ⟨((HB.out.cell (World.block_lt_of_cell? w _ hw238_0)).trans (by first | exact hw238_0)), ((HB.out.cell (World.block_lt_of_cell? w _ hw238_1)).trans (by first | exact hw238_1)), ((HB.out.cell (World.block_lt_of_cell? w _ hw238_2)).trans (by first | exact hw238_2)), ((HB.out.cell (World.block_lt_of_cell? w _ hw238_3)).trans (by first | exact hw238_3)), ((HB.out.cell (World.block_lt_of_cell? w _ hw238_4)).trans (by first | exact hw238_4)), ((HB.out.cell (World.block_lt_of_cell? w _ hw238_5)).trans (by first | exact hw238_5)), ((HB.out.cell (World.block_lt_of_cell? w _ hw238_6)).trans (by first | exact hw238_6)), ((HB.out.cell (World.block_lt_of_cell? w _ hw239_0)).trans (by first | exact hw239_0)), ((HB.out.cell (World.block_lt_of_cell? w _ hw239_1)).trans (by first | exact hw239_1)), ((HB.out.cell (World.block_lt_of_cell? w _ hw239_2)).trans (by first | exact hw239_2)), ((HB.out.cell (World.block_lt_of_cell? w _ hw239_3)).trans (by first | exact hw239_3)), ((HB.out.cell (World.block_lt_of_cell? w _ hw239_4)).trans (by first | exact hw239_4)), ((HB.out.cell (World.block_lt_of_cell? w _ hw239_5)).trans (by first | exact hw239_5)), ((HB.out.cell (World.block_lt_of_cell? w _ hw239_6)).trans (by first | exact hw239_6))⟩ (fun hHeld => ?_); refine with_tabW selvedgeref11_Entries.tab7 selvedgeref11_Entries.bits7 (fun HT_ HW_ => ?_)
         generalize w11.drew = w12 at HB HR238_3 HR238_4 HR239_3 HR239_4 hx238_0 hx238_1 hx238_2 hx238_3 hx238_4 hx238_5 hx238_6 hx239_0 hx239_1 hx239_2 hx239_3 hx239_4 hx239_5 hx239_6 hHeld ⊢
         refine pure_ (i := 0) (N := some 29) (v := ?_) (a' := ?_) #[true, false, false, false, false, false, false, false, false, false, false, false, false, false, false] rfl rfl (any_of HT_.out (by kernel_rfl)) (fun _ _ _ h => h) (Or.inl ⟨by rfl, ?_⟩) ?_ ?_
         rotate_left
         ·
          intro w'
          go_simp
          with_reducible rfl
         rotate_left
         ·
          simp only [Act.put, List.setIfInBounds_toArray, List.set_cons_zero, List.set_cons_succ, i64_w, i32_w]
          rfl
         refine pure_ (i := 1) (N := some 30) (v := ?_) (a' := ?_) #[true, true, false, false, false, false, false, false, false, false, false, false, false, false, false] rfl rfl (any_of HT_.out (by kernel_rfl)) (fun _ _ _ h => h) (Or.inl ⟨by rfl, ?_⟩) ?_ ?_
         rotate_left
         ·
          intro w'
          go_simp
          with_reducible rfl
         rotate_left
         ·
          simp only [Act.put, List.setIfInBounds_toArray, List.set_cons_zero, List.set_cons_succ, i64_w, i32_w]
          rfl
         refine pure_ (i := 2) (N := some 31) (v := ?_) (a' := ?_) #[true, true, true, false, false, false, false, false, false, false, false, false, false, false, false] rfl rfl (any_of HT_.out (by kernel_rfl)) (fun _ _ _ h => h) (Or.inl ⟨by rfl, ?_⟩) ?_ ?_
         rotate_left
         ·
          intro w'
          go_simp
          with_reducible rfl
         rotate_left
         ·
          simp only [Act.put, List.setIfInBounds_toArray, List.set_cons_zero, List.set_cons_succ, i64_w, i32_w]
          rfl
         refine pure_ (i := 3) (N := some 32) (v := ?_) (a' := ?_) #[true, true, true, true, false, false, false, false, false, false, false, false, false, false, false] rfl rfl (any_of HT_.out (by kernel_rfl)) (fun _ _ _ h => h) (Or.inl ⟨by rfl, ?_⟩) ?_ ?_
         rotate_left
         ·
          intro w'
          go_simp
          with_reducible rfl
         rotate_left
         ·
          simp only [Act.put, List.setIfInBounds_toArray, List.set_cons_zero, List.set_cons_succ, i64_w, i32_w]
          rfl
         refine pure_ (i := 4) (N := some 33) (v := ?_) (a' := ?_) #[true, true, true, true, true, false, false, false, false, false, false, false, false, false, false] rfl rfl (any_of HT_.out (by kernel_rfl)) (fun _ _ _ h => h) (Or.inl ⟨by rfl, ?_⟩) ?_ ?_
         rotate_left
         ·
          intro w'
          go_simp
          with_reducible rfl
         rotate_left
         ·
          simp only [Act.put, List.setIfInBounds_toArray, List.set_cons_zero, List.set_cons_succ, i64_w, i32_w]
          rfl
         refine pure_ (i := 5) (N := some 34) (v := ?_) (a' := ?_) #[true, true, true, true, true, true, false, false, false, false, false, false, false, false, false] rfl rfl (any_of HT_.out (by kernel_rfl)) (fun _ _ _ h => h) (Or.inl ⟨by rfl, ?_⟩) ?_ ?_
         rotate_left
         ·
          intro w'
          go_simp
          with_reducible rfl
         rotate_left
         ·
          simp only [Act.put, List.setIfInBounds_toArray, List.set_cons_zero, List.set_cons_succ, i64_w, i32_w]
          rfl
         refine pure_ (i := 6) (N := some 35) (v := ?_) (a' := ?_) #[true, true, true, true, true, true, true, false, false, false, false, false, false, false, false] rfl rfl (any_of HT_.out (by kernel_rfl)) (fun _ _ _ h => h) (Or.inl ⟨by rfl, ?_⟩) ?_ ?_
         rotate_left
         ·
          intro w'
          go_simp
          with_reducible rfl
         rotate_left
         ·
          simp only [Act.put, List.setIfInBounds_toArray, List.set_cons_zero, List.set_cons_succ, i64_w, i32_w]
          rfl
         refine pure_ (i := 8) (N := some 37) (v := ?_) (a' := ?_) #[true, true, true, true, true, true, true, false, true, false, false, false, false, false, false] rfl rfl (any_of HT_.out (by kernel_rfl)) (fun _ _ _ h => h) (Or.inl ⟨by rfl, ?_⟩) ?_ ?_
         rotate_left
         ·
          intro w'
          go_simp
          with_reducible rfl
         rotate_left
         ·
          simp only [Act.put, List.setIfInBounds_toArray, List.set_cons_zero, List.set_cons_succ, i64_w, i32_w]
          rfl
         refine pure_ (i := 9) (N := some 38) (v := ?_) (a' := ?_) #[true, true, true, true, true, true, true, false, true, true, false, false, false, false, false] rfl rfl (any_of HT_.out (by kernel_rfl)) (fun _ _ _ h => h) (Or.inl ⟨by rfl, ?_⟩) ?_ ?_
         rotate_left
         ·
          intro w'
          go_simp
          with_reducible rfl
         rotate_left
         ·
          simp only [Act.put, List.setIfInBounds_toArray, List.set_cons_zero, List.set_cons_succ, i64_w, i32_w]
          rfl
         refine pure_ (i := 10) (N := some 39) (v := ?_) (a' := ?_) #[true, true, true, true, true, true, true, false, true, true, true, false, false, false, false] rfl rfl (any_of HT_.out (by kernel_rfl)) (fun _ _ _ h => h) (Or.inl ⟨by rfl, ?_⟩) ?_ ?_
         rotate_left
         ·
          intro w'
          go_simp
          with_reducible rfl
         rotate_left
         ·
          simp only [Act.put, List.setIfInBounds_toArray, List.set_cons_zero, List.set_cons_succ, i64_w, i32_w]
          rfl
         refine pure_ (i := 11) (N := some 40) (v := ?_) (a' := ?_) #[true, true, true, true, true, true, true, false, true, true, true, true, false, false, false] rfl rfl (any_of HT_.out (by kernel_rfl)) (fun _ _ _ h => h) (Or.inl ⟨by rfl, ?_⟩) ?_ ?_
         rotate_left
         ·
          intro w'
          go_simp
          with_reducible rfl
         rotate_left
         ·
          simp only [Act.put, List.setIfInBounds_toArray, List.set_cons_zero, List.set_cons_succ, i64_w, i32_w]
          rfl
         refine take_ (i := 7) (N := some 36) (v := ?_) (a' := ?_) #[true, true, true, true, true, true, true, true, true, true, true, true, false, false, false] rfl rfl (take_ofW HT_.out HW_.out (by kernel_rfl)) (fun _ _ _ h => h) (Or.inl ⟨by rfl, ?_⟩) hHeld ?_ ?_
         rotate_left
         ·
          rintro w' ⟨s0, s1, s2, s3, s4, s5, s6, s7, s8, s9, s10, s11, s12, s13⟩
          go_simp
          with_reducible rfl
         rotate_left
         ·
          simp only [Act.put, List.setIfInBounds_toArray, List.set_cons_zero, List.set_cons_succ, i64_w, i32_w]
          rfl
         refine take_ (i := 12) (N := some 41) (v := ?_) (a' := ?_) #[true, true, true, true, true, true, true, true, true, true, true, true, true, false, false] rfl rfl (take_ofW HT_.out HW_.out (by kernel_rfl)) (fun _ _ _ h => h) (Or.inl ⟨by rfl, ?_⟩) hHeld ?_ ?_
         rotate_left
         ·
          rintro w' ⟨s0, s1, s2, s3, s4, s5, s6, s7, s8, s9, s10, s11, s12, s13⟩
          go_simp
          with_reducible rfl
         rotate_left
         ·
          simp only [Act.put, List.setIfInBounds_toArray, List.set_cons_zero, List.set_cons_succ, i64_w, i32_w]
          rfl
         refine pure_ (i := 13) (N := some 42) (v := ?_) (a' := ?_) #[true, true, true, true, true, true, true, true, true, true, true, true, true, true, false] rfl rfl (any_of HT_.out (by kernel_rfl)) (fun _ _ _ h => h) (Or.inl ⟨by rfl, ?_⟩) ?_ ?_
         rotate_left
         ·
          intro w'
          go_simp
          with_reducible rfl
         rotate_left
         ·
          simp only [Act.put, List.setIfInBounds_toArray, List.set_cons_zero, List.set_cons_succ, i64_w, i32_w]
          rfl
         refine pure_ (i := 14) (N := some 43) (v := ?_) (a' := ?_) #[true, true, true, true, true, true, true, true, true, true, true, true, true, true, true] rfl rfl (any_of HT_.out (by kernel_rfl)) (fun _ _ _ h => h) (Or.inl ⟨by rfl, ?_⟩) ?_ ?_
         rotate_left
         ·
          intro w'
          go_simp
          with_reducible rfl
         rotate_left
         ·
          simp only [Act.put, List.setIfInBounds_toArray, List.set_cons_zero, List.set_cons_succ, i64_w, i32_w]
          rfl
         refine done_ (done_of HT_.out (by kernel_rfl)) ?_
         try go_wp2
         go_roundg k1
         case measure => have := HK1.out; omega
         case rel => exact ⟨(wrap64 (x5_1 + 1)), (by first | rfl | (simp; done) | (simp [*]; done)), H', ⟨by have := HK1.out; omega⟩, ⟨by repeat (first | (with_reducible first | exact HB.out | apply below_alloc | apply pw_below_drewN | apply below_drew1) | exact HB.out)⟩⟩
        ·
         rw [if_neg c9] at H
         have c9b0 : (((rd_T37 l0 x5_1).f0).toList == ((rd_T37 l1 x5_1).f0).toList) = false := beq_eq_false_iff_ne.mpr c9
         have c9b1 : (((rd_T37 l0 x5_1).f0).toList != ((rd_T37 l1 x5_1).f0).toList) = true := bne_iff_ne.mpr c9
         obtain rfl := Option.some.inj H
         try go_wp2
         have n0_ := Aside0.mk (below_drew1 HB.out)
         clear HB
         have HB := n0_
         clear n0_
         have p235 : 0 ≤ (x5_1 : Int) := of_decide_eq_true (by first | (with_reducible assumption) | assumption)
         have q235 : x5_1 < (l0.length : Int) := of_decide_eq_true (by first | (with_reducible assumption) | assumption)
         obtain ⟨ad235, A235_3, c235_3, A235_4, c235_4, e235, hx235_0, hx235_1, hx235_2, hx235_3, hx235_4, hx235_5, hx235_6, hl235_3, hi235_3, hl235_4, hi235_4⟩ := at_T37 HR0.out x5_1 p235 q235
         have hw235_6 := hx235_6
         have hw235_5 := hx235_5
         have hw235_4 := hx235_4
         have hw235_3 := hx235_3
         have hw235_2 := hx235_2
         have hw235_1 := hx235_1
         have hw235_0 := hx235_0
         cases e235
         replace hx235_0 := (HB.out.cell (World.block_lt_of_cell? w _ hx235_0)).trans hx235_0
         replace hx235_1 := (HB.out.cell (World.block_lt_of_cell? w _ hx235_1)).trans hx235_1
         replace hx235_2 := (HB.out.cell (World.block_lt_of_cell? w _ hx235_2)).trans hx235_2
         replace hx235_3 := (HB.out.cell (World.block_lt_of_cell? w _ hx235_3)).trans hx235_3
         replace hx235_4 := (HB.out.cell (World.block_lt_of_cell? w _ hx235_4)).trans hx235_4
         replace hx235_5 := (HB.out.cell (World.block_lt_of_cell? w _ hx235_5)).trans hx235_5
         replace hx235_6 := (HB.out.cell (World.block_lt_of_cell? w _ hx235_6)).trans hx235_6
         have HR235_3 := Aside0.mk hi235_3
         have HC235_3 := Aside0.mk hl235_3
         clear hi235_3 hl235_3
         have HR235_4 := Aside0.mk hi235_4
         have HC235_4 := Aside0.mk hl235_4
         clear hi235_4 hl235_4
         replace p235 := eq_true p235
         replace q235 := eq_true q235
         have p236 : 0 ≤ (x5_1 : Int) := of_decide_eq_true (by first | (with_reducible assumption) | assumption)
         have q236 : x5_1 < (l1.length : Int) := of_decide_eq_true (by first | (with_reducible assumption) | assumption)
         obtain ⟨ad236, A236_3, c236_3, A236_4, c236_4, e236, hx236_0, hx236_1, hx236_2, hx236_3, hx236_4, hx236_5, hx236_6, hl236_3, hi236_3, hl236_4, hi236_4⟩ := at_T37 HR1.out x5_1 p236 q236
         have hw236_6 := hx236_6
         have hw236_5 := hx236_5
         have hw236_4 := hx236_4
         have hw236_3 := hx236_3
         have hw236_2 := hx236_2
         have hw236_1 := hx236_1
         have hw236_0 := hx236_0
         cases e236
         replace hx236_0 := (HB.out.cell (World.block_lt_of_cell? w _ hx236_0)).trans hx236_0
         replace hx236_1 := (HB.out.cell (World.block_lt_of_cell? w _ hx236_1)).trans hx236_1
         replace hx236_2 := (HB.out.cell (World.block_lt_of_cell? w _ hx236_2)).trans hx236_2
         replace hx236_3 := (HB.out.cell (World.block_lt_of_cell? w _ hx236_3)).trans hx236_3
         replace hx236_4 := (HB.out.cell (World.block_lt_of_cell? w _ hx236_4)).trans hx236_4
         replace hx236_5 := (HB.out.cell (World.block_lt_of_cell? w _ hx236_5)).trans hx236_5
         replace hx236_6 := (HB.out.cell (World.block_lt_of_cell? w _ hx236_6)).trans hx236_6
         have HR236_3 := Aside0.mk hi236_3
         have HC236_3 := Aside0.mk hl236_3
         clear hi236_3 hl236_3
         have HR236_4 := Aside0.mk hi236_4
         have HC236_4 := Aside0.mk hl236_4
         clear hi236_4 hl236_4
         replace p236 := eq_true p236
         replace q236 := eq_true q236
         refine start_ (n := 12) (S := fun w' => w'.cell? (ad235.add ((x5_1).toNat * 7)) = some (.string ((rd_T37 l0 x5_1).f0)) ∧ w'.cell? ⟨(ad235.add ((x5_1).toNat * 7)).block, (ad235.add ((x5_1).toNat * 7)).off + 1, none⟩ = some (.int .i64 ((rd_T37 l0 x5_1).f1.f0)) ∧ w'.cell? ⟨(ad235.add ((x5_1).toNat * 7)).block, (ad235.add ((x5_1).toNat * 7)).off + 2, none⟩ = some (.int .i64 ((rd_T37 l0 x5_1).f1.f1)) ∧ w'.cell? ⟨(ad235.add ((x5_1).toNat * 7)).block, (ad235.add ((x5_1).toNat * 7)).off + 3, none⟩ = some (.slice A235_3 ((rd_T37 l0 x5_1).f1.f2).length c235_3) ∧ w'.cell? ⟨(ad235.add ((x5_1).toNat * 7)).block, (ad235.add ((x5_1).toNat * 7)).off + 4, none⟩ = some (.slice A235_4 ((rd_T37 l0 x5_1).f1.f3).length c235_4) ∧ w'.cell? ⟨(ad235.add ((x5_1).toNat * 7)).block, (ad235.add ((x5_1).toNat * 7)).off + 5, none⟩ = some (.int .i64 ((rd_T37 l0 x5_1).f1.f4.f0)) ∧ w'.cell? ⟨(ad235.add ((x5_1).toNat * 7)).block, (ad235.add ((x5_1).toNat * 7)).off + 6, none⟩ = some (.int .i64 ((rd_T37 l0 x5_1).f1.f4.f1)) ∧ w'.cell? (ad236.add ((x5_1).toNat * 7)) = some (.string ((rd_T37 l1 x5_1).f0)) ∧ w'.cell? ⟨(ad236.add ((x5_1).toNat * 7)).block, (ad236.add ((x5_1).toNat * 7)).off + 1, none⟩ = some (.int .i64 ((rd_T37 l1 x5_1).f1.f0)) ∧ w'.cell? ⟨(ad236.add ((x5_1).toNat * 7)).block, (ad236.add ((x5_1).toNat * 7)).off + 2, none⟩ = some (.int .i64 ((rd_T37 l1 x5_1).f1.f1)) ∧ w'.cell? ⟨(ad236.add ((x5_1).toNat * 7)).block, (ad236.add ((x5_1).toNat * 7)).off + 3, none⟩ = some (.slice A236_3 ((rd_T37 l1 x5_1).f1.f2).length c236_3) ∧ w'.cell? ⟨(ad236.add ((x5_1).toNat * 7)).block, (ad236.add ((x5_1).toNat * 7)).off + 4, none⟩ = some (.slice A236_4 ((rd_T37 l1 x5_1).f1.f3).length c236_4) ∧ w'.cell? ⟨(ad236.add ((x5_1).toNat * 7)).block, (ad236.add ((x5_1).toNat * 7)).off + 5, none⟩ = some (.int .i64 ((rd_T37 l1 x5_1).f1.f4.f0)) ∧ w'.cell? ⟨(ad236.add ((x5_1).toNat * 7)).block, (ad236.add ((x5_1).toNat * 7)).off + 6, none⟩ = some (.int .i64 ((rd_T37 l1 x5_1).f1.f4.f1))) (ds := []) #[false, false, false, false, false, false, false, false, false, false, false, false] (by kernel_rfl) rfl rfl ⟨((HB.out.cell (World.block_lt_of_cell? w _ hw235_0)).trans (by first | exact hw235_0)), ((HB.out.cell (World.block_lt_of_cell? w _ hw235_1)).trans (by first | exact hw235_1)), ((HB.out.cell (World.block_lt_of_cell? w _ hw235_2)).trans (by first | exact hw235_2)), ((HB.out.cell (World.block_lt_of_cell? w _ hw235_3)).trans (by first | exact hw235_3)), ((HB.out.cell (World.block_lt_of_cell? w _ hw235_4)).trans (by first | exact hw235_4)), ((HB.out.cell (World.block_lt_of_cell? w _ hw235_5)).trans (by first | exact hw235_5)), ((HB.out.cell (World.block_lt_of_cell? w _ hw235_6)).trans (by first | exact hw235_6)), ((HB.out.cell (World.block_lt_of_cell? w _ hw236_0)).trans (by first | exact hw236_0)), ((HB.out.cell (World.block_lt_of_cell? w _ hw236_1)).trans (by first | exact hw236_1)), ((HB.out.cell (World.block_lt_of_cell? w _ hw236_2)).trans (by first | exact hw236_2)), ((HB.out.cell (World.block_lt_of_cell? w _ hw236_3)).trans (by first | exact hw236_3)), ((HB.out.cell (World.block_lt_of_cell? w _ hw236_4)).trans (by first | exact hw236_4)), ((HB.out.cell (World.block_lt_of_cell? w _ hw236_5)).trans (by first | exact hw236_5)), ((HB.out.cell (World.block_lt_of_cell? w _ hw236_6)).trans (by first | exact hw236_6))⟩ (fun hHeld => ?_); refine with_tabW selvedgeref11_Entries.tab6 selvedgeref11_Entries.bits6 (fun HT_ HW_ => ?_)
         generalize wr.drew = w13 at HB HR235_3 HR235_4 HR236_3 HR236_4 hx235_0 hx235_1 hx235_2 hx235_3 hx235_4 hx235_5 hx235_6 hx236_0 hx236_1 hx236_2 hx236_3 hx236_4 hx236_5 hx236_6 hHeld ⊢
         refine pure_ (i := 0) (N := some 18) (v := ?_) (a' := ?_) #[true, false, false, false, false, false, false, false, false, false, false, false] rfl rfl (any_of HT_.out (by kernel_rfl)) (fun _ _ _ h => h) (Or.inl ⟨by rfl, ?_⟩) ?_ ?_
         rotate_left
         ·
          intro w'
          go_simp
          with_reducible rfl
         rotate_left
         ·
          simp only [Act.put, List.setIfInBounds_toArray, List.set_cons_zero, List.set_cons_succ, i64_w, i32_w]
          rfl
         refine pure_ (i := 1) (N := some 19) (v := ?_) (a' := ?_) #[true, true, false, false, false, false, false, false, false, false, false, false] rfl rfl (any_of HT_.out (by kernel_rfl)) (fun _ _ _ h => h) (Or.inl ⟨by rfl, ?_⟩) ?_ ?_
         rotate_left
         ·
          intro w'
          go_simp
          with_reducible rfl
         rotate_left
         ·
          simp only [Act.put, List.setIfInBounds_toArray, List.set_cons_zero, List.set_cons_succ, i64_w, i32_w]
          rfl
         refine pure_ (i := 2) (N := some 20) (v := ?_) (a' := ?_) #[true, true, true, false, false, false, false, false, false, false, false, false] rfl rfl (any_of HT_.out (by kernel_rfl)) (fun _ _ _ h => h) (Or.inl ⟨by rfl, ?_⟩) ?_ ?_
         rotate_left
         ·
          intro w'
          go_simp
          with_reducible rfl
         rotate_left
         ·
          simp only [Act.put, List.setIfInBounds_toArray, List.set_cons_zero, List.set_cons_succ, i64_w, i32_w]
          rfl
         refine pure_ (i := 3) (N := some 21) (v := ?_) (a' := ?_) #[true, true, true, true, false, false, false, false, false, false, false, false] rfl rfl (any_of HT_.out (by kernel_rfl)) (fun _ _ _ h => h) (Or.inl ⟨by rfl, ?_⟩) ?_ ?_
         rotate_left
         ·
          intro w'
          go_simp
          with_reducible rfl
         rotate_left
         ·
          simp only [Act.put, List.setIfInBounds_toArray, List.set_cons_zero, List.set_cons_succ, i64_w, i32_w]
          rfl
         refine pure_ (i := 5) (N := some 23) (v := ?_) (a' := ?_) #[true, true, true, true, false, true, false, false, false, false, false, false] rfl rfl (any_of HT_.out (by kernel_rfl)) (fun _ _ _ h => h) (Or.inl ⟨by rfl, ?_⟩) ?_ ?_
         rotate_left
         ·
          intro w'
          go_simp
          with_reducible rfl
         rotate_left
         ·
          simp only [Act.put, List.setIfInBounds_toArray, List.set_cons_zero, List.set_cons_succ, i64_w, i32_w]
          rfl
         refine pure_ (i := 6) (N := some 24) (v := ?_) (a' := ?_) #[true, true, true, true, false, true, true, false, false, false, false, false] rfl rfl (any_of HT_.out (by kernel_rfl)) (fun _ _ _ h => h) (Or.inl ⟨by rfl, ?_⟩) ?_ ?_
         rotate_left
         ·
          intro w'
          go_simp
          with_reducible rfl
         rotate_left
         ·
          simp only [Act.put, List.setIfInBounds_toArray, List.set_cons_zero, List.set_cons_succ, i64_w, i32_w]
          rfl
         refine pure_ (i := 7) (N := some 25) (v := ?_) (a' := ?_) #[true, true, true, true, false, true, true, true, false, false, false, false] rfl rfl (any_of HT_.out (by kernel_rfl)) (fun _ _ _ h => h) (Or.inl ⟨by rfl, ?_⟩) ?_ ?_
         rotate_left
         ·
          intro w'
          go_simp
          with_reducible rfl
         rotate_left
         ·
          simp only [Act.put, List.setIfInBounds_toArray, List.set_cons_zero, List.set_cons_succ, i64_w, i32_w]
          rfl
         refine pure_ (i := 8) (N := some 26) (v := ?_) (a' := ?_) #[true, true, true, true, false, true, true, true, true, false, false, false] rfl rfl (any_of HT_.out (by kernel_rfl)) (fun _ _ _ h => h) (Or.inl ⟨by rfl, ?_⟩) ?_ ?_
         rotate_left
         ·
          intro w'
          go_simp
          with_reducible rfl
         rotate_left
         ·
          simp only [Act.put, List.setIfInBounds_toArray, List.set_cons_zero, List.set_cons_succ, i64_w, i32_w]
          rfl
         refine take_ (i := 4) (N := some 22) (v := ?_) (a' := ?_) #[true, true, true, true, true, true, true, true, true, false, false, false] rfl rfl (take_ofW HT_.out HW_.out (by kernel_rfl)) (fun _ _ _ h => h) (Or.inl ⟨by rfl, ?_⟩) hHeld ?_ ?_
         rotate_left
         ·
          rintro w' ⟨s0, s1, s2, s3, s4, s5, s6, s7, s8, s9, s10, s11, s12, s13⟩
          go_simp
          with_reducible rfl
         rotate_left
         ·
          simp only [Act.put, List.setIfInBounds_toArray, List.set_cons_zero, List.set_cons_succ, i64_w, i32_w]
          rfl
         refine take_ (i := 9) (N := some 27) (v := ?_) (a' := ?_) #[true, true, true, true, true, true, true, true, true, true, false, false] rfl rfl (take_ofW HT_.out HW_.out (by kernel_rfl)) (fun _ _ _ h => h) (Or.inl ⟨by rfl, ?_⟩) hHeld ?_ ?_
         rotate_left
         ·
          rintro w' ⟨s0, s1, s2, s3, s4, s5, s6, s7, s8, s9, s10, s11, s12, s13⟩
          go_simp
          with_reducible rfl
         rotate_left
         ·
          simp only [Act.put, List.setIfInBounds_toArray, List.set_cons_zero, List.set_cons_succ, i64_w, i32_w]
          rfl
         refine one_ (i := 10) (N := some 28) #[true, true, true, true, true, true, true, true, true, true, true, false] rfl rfl (one_of HT_.out (by kernel_rfl)) (by decide) (fun K hK => ?_)
         refine goes_ Try.func57 (by kernel_rfl) rfl #[.agg #[.int .i64 ((rd_T37 l0 x5_1).f1.f0), .int .i64 ((rd_T37 l0 x5_1).f1.f1), .slice A235_3 ((rd_T37 l0 x5_1).f1.f2).length c235_3, .slice A235_4 ((rd_T37 l0 x5_1).f1.f3).length c235_4, .int .i64 ((rd_T37 l0 x5_1).f1.f4.f0), .int .i64 ((rd_T37 l0 x5_1).f1.f4.f1)], .agg #[.int .i64 ((rd_T37 l1 x5_1).f1.f0), .int .i64 ((rd_T37 l1 x5_1).f1.f1), .slice A236_3 ((rd_T37 l1 x5_1).f1.f2).length c236_3, .slice A236_4 ((rd_T37 l1 x5_1).f1.f3).length c236_4, .int .i64 ((rd_T37 l1 x5_1).f1.f4.f0), .int .i64 ((rd_T37 l1 x5_1).f1.f4.f1)]] (by rfl) rfl rfl (by (try simp only [List.map_toArray, List.map_cons, List.map_nil]); first | done | rfl | (simp only [List.length_drop, List.length_take]; rfl)) ?_
         with_reducible refine (selvedgeref08_Same.calls k1 ((rd_T37 l0 x5_1).f1.f0) ((rd_T37 l0 x5_1).f1.f1) _ _ ((rd_T37 l0 x5_1).f1.f2) _ _ ((rd_T37 l0 x5_1).f1.f3) ((rd_T37 l0 x5_1).f1.f4.f0) ((rd_T37 l0 x5_1).f1.f4.f1) ((rd_T37 l1 x5_1).f1.f0) ((rd_T37 l1 x5_1).f1.f1) _ _ ((rd_T37 l1 x5_1).f1.f2) _ _ ((rd_T37 l1 x5_1).f1.f3) ((rd_T37 l1 x5_1).f1.f4.f0) ((rd_T37 l1 x5_1).f1.f4.f1) true _ ?side1 ?side2 ?side3 ?side4 ?side5 ?side6 ?side7 ?side8 A7.out).mono ?_
         (case side1 => repeat (first | exact (Kd.C_below HR235_3.out HB.out) | (with_reducible refine Kd.C_alloc ?_ _) | (with_reducible refine Kd.C_drewN ?_ _) | (with_reducible refine Kd.C_drew ?_)))
         (case side2 => exact HC235_3.out)
         (case side3 => repeat (first | exact (Kd.C_below HR235_4.out HB.out) | (with_reducible refine Kd.C_alloc ?_ _) | (with_reducible refine Kd.C_drewN ?_ _) | (with_reducible refine Kd.C_drew ?_)))
         (case side4 => exact HC235_4.out)
         (case side5 => repeat (first | exact (Kd.C_below HR236_3.out HB.out) | (with_reducible refine Kd.C_alloc ?_ _) | (with_reducible refine Kd.C_drewN ?_ _) | (with_reducible refine Kd.C_drew ?_)))
         (case side6 => exact HC236_3.out)
         (case side7 => repeat (first | exact (Kd.C_below HR236_4.out HB.out) | (with_reducible refine Kd.C_alloc ?_ _) | (with_reducible refine Kd.C_drewN ?_ _) | (with_reducible refine Kd.C_drew ?_)))
         (case side8 => exact HC236_4.out)
         rintro e w14 ⟨rfl, hb⟩
         refine ⟨_, rfl, ?_⟩
         have n0_ := Aside0.mk (below_step (by repeat (first | (with_reducible first | exact HB.out | apply below_alloc | apply pw_below_drewN | apply below_drew1) | exact HB.out)) hb)
         clear HB
         have HB := n0_
         clear n0_
         (try clear hb)
         (try clear hb2)
         (try clear hk)
         (try clear hi)
         refine hK.out _ _ ⟨((HB.out.cell (World.block_lt_of_cell? w _ hw235_0)).trans (by first | exact hw235_0)), ((HB.out.cell (World.block_lt_of_cell? w _ hw235_1)).trans (by first | exact hw235_1)), ((HB.out.cell (World.block_lt_of_cell? w _ hw235_2)).trans (by first | exact hw235_2)), ((HB.out.cell (World.block_lt_of_cell? w _ hw235_3)).trans (by first | exact hw235_3)), ((HB.out.cell (World.block_lt_of_cell? w _ hw235_4)).trans (by first | exact hw235_4)), ((HB.out.cell (World.block_lt_of_cell? w _ hw235_5)).trans (by first | exact hw235_5)), ((HB.out.cell (World.block_lt_of_cell? w _ hw235_6)).trans (by first | exact hw235_6)), ((HB.out.cell (World.block_lt_of_cell? w _ hw236_0)).trans (by first | exact hw236_0)), ((HB.out.cell (World.block_lt_of_cell? w _ hw236_1)).trans (by first | exact hw236_1)), ((HB.out.cell (World.block_lt_of_cell? w _ hw236_2)).trans (by first | exact hw236_2)), ((HB.out.cell (World.block_lt_of_cell? w _ hw236_3)).trans (by first | exact hw236_3)), ((HB.out.cell (World.block_lt_of_cell? w _ hw236_4)).trans (by first | exact hw236_4)), ((HB.out.cell (World.block_lt_of_cell? w _ hw236_5)).trans (by first | exact hw236_5)), ((HB.out.cell (World.block_lt_of_cell? w _ hw236_6)).trans (by first | exact hw236_6))⟩ (fun hHeld => ?_)
         clear hK K
         refine norm_ (a' := ?_) ?_ ?_
         rotate_left
         ·
          show Act.put _ (some 28) _ = _
          simp only [Act.put, List.setIfInBounds_toArray, List.set_cons_zero, List.set_cons_succ, i64_w, i32_w]
          rfl
         refine pure_ (i := 11) (N := some 6) (v := ?_) (a' := ?_) #[true, true, true, true, true, true, true, true, true, true, true, true] rfl rfl (any_of HT_.out (by kernel_rfl)) (fun _ _ _ h => h) (Or.inl ⟨by rfl, ?_⟩) ?_ ?_
         rotate_left
         ·
          intro w'
          go_simp
          with_reducible rfl
         rotate_left
         ·
          simp only [Act.put, List.setIfInBounds_toArray, List.set_cons_zero, List.set_cons_succ, i64_w, i32_w]
          rfl
         refine done_ (done_of HT_.out (by kernel_rfl)) ?_
         try go_wp2
         have n0_ := Aside0.mk (below_drew1 HB.out)
         clear HB
         have HB := n0_
         clear n0_
         have p238 : 0 ≤ (x5_1 : Int) := of_decide_eq_true (by first | (with_reducible assumption) | assumption)
         have q238 : x5_1 < (l0.length : Int) := of_decide_eq_true (by first | (with_reducible assumption) | assumption)
         obtain ⟨ad238, A238_3, c238_3, A238_4, c238_4, e238, hx238_0, hx238_1, hx238_2, hx238_3, hx238_4, hx238_5, hx238_6, hl238_3, hi238_3, hl238_4, hi238_4⟩ := at_T37 HR0.out x5_1 p238 q238
         have hw238_6 := hx238_6
         have hw238_5 := hx238_5
         have hw238_4 := hx238_4
         have hw238_3 := hx238_3
         have hw238_2 := hx238_2
         have hw238_1 := hx238_1
         have hw238_0 := hx238_0
         obtain rfl : ad235 = ad238 := (by injection e238)
         replace hx238_0 := (HB.out.cell (World.block_lt_of_cell? w _ hx238_0)).trans hx238_0
         replace hx238_1 := (HB.out.cell (World.block_lt_of_cell? w _ hx238_1)).trans hx238_1
         replace hx238_2 := (HB.out.cell (World.block_lt_of_cell? w _ hx238_2)).trans hx238_2
         replace hx238_3 := (HB.out.cell (World.block_lt_of_cell? w _ hx238_3)).trans hx238_3
         replace hx238_4 := (HB.out.cell (World.block_lt_of_cell? w _ hx238_4)).trans hx238_4
         replace hx238_5 := (HB.out.cell (World.block_lt_of_cell? w _ hx238_5)).trans hx238_5
         replace hx238_6 := (HB.out.cell (World.block_lt_of_cell? w _ hx238_6)).trans hx238_6
         have HR238_3 := Aside0.mk hi238_3
         have HC238_3 := Aside0.mk hl238_3
         clear hi238_3 hl238_3
         have HR238_4 := Aside0.mk hi238_4
         have HC238_4 := Aside0.mk hl238_4
         clear hi238_4 hl238_4
         replace p238 := eq_true p238
         replace q238 := eq_true q238
         have p239 : 0 ≤ (x5_1 : Int) := of_decide_eq_true (by first | (with_reducible assumption) | assumption)
         have q239 : x5_1 < (l1.length : Int) := of_decide_eq_true (by first | (with_reducible assumption) | assumption)
         obtain ⟨ad239, A239_3, c239_3, A239_4, c239_4, e239, hx239_0, hx239_1, hx239_2, hx239_3, hx239_4, hx239_5, hx239_6, hl239_3, hi239_3, hl239_4, hi239_4⟩ := at_T37 HR1.out x5_1 p239 q239
         have hw239_6 := hx239_6
         have hw239_5 := hx239_5
         have hw239_4 := hx239_4
         have hw239_3 := hx239_3
         have hw239_2 := hx239_2
         have hw239_1 := hx239_1
         have hw239_0 := hx239_0
         obtain rfl : ad236 = ad239 := (by injection e239)
         replace hx239_0 := (HB.out.cell (World.block_lt_of_cell? w _ hx239_0)).trans hx239_0
         replace hx239_1 := (HB.out.cell (World.block_lt_of_cell? w _ hx239_1)).trans hx239_1
         replace hx239_2 := (HB.out.cell (World.block_lt_of_cell? w _ hx239_2)).trans hx239_2
         replace hx239_3 := (HB.out.cell (World.block_lt_of_cell? w _ hx239_3)).trans hx239_3
         replace hx239_4 := (HB.out.cell (World.block_lt_of_cell? w _ hx239_4)).trans hx239_4
         replace hx239_5 := (HB.out.cell (World.block_lt_of_cell? w _ hx239_5)).trans hx239_5
         replace hx239_6 := (HB.out.cell (World.block_lt_of_cell? w _ hx239_6)).trans hx239_6
         have HR239_3 := Aside0.mk hi239_3
         have HC239_3 := Aside0.mk hl239_3
         clear hi239_3 hl239_3
         have HR239_4 := Aside0.mk hi239_4
         have HC239_4 := Aside0.mk hl239_4
         clear hi239_4 hl239_4
         replace p239 := eq_true p239
         replace q239 := eq_true q239
         refine start_ (n := 15) (S := fun w' => w'.cell? (ad235.add ((x5_1).toNat * 7)) = some (.string ((rd_T37 l0 x5_1).f0)) ∧ w'.cell? ⟨(ad235.add ((x5_1).toNat * 7)).block, (ad235.add ((x5_1).toNat * 7)).off + 1, none⟩ = some (.int .i64 ((rd_T37 l0 x5_1).f1.f0)) ∧ w'.cell? ⟨(ad235.add ((x5_1).toNat * 7)).block, (ad235.add ((x5_1).toNat * 7)).off + 2, none⟩ = some (.int .i64 ((rd_T37 l0 x5_1).f1.f1)) ∧ w'.cell? ⟨(ad235.add ((x5_1).toNat * 7)).block, (ad235.add ((x5_1).toNat * 7)).off + 3, none⟩ = some (.slice A238_3 ((rd_T37 l0 x5_1).f1.f2).length c238_3) ∧ w'.cell? ⟨(ad235.add ((x5_1).toNat * 7)).block, (ad235.add ((x5_1).toNat * 7)).off + 4, none⟩ = some (.slice A238_4 ((rd_T37 l0 x5_1).f1.f3).length c238_4) ∧ w'.cell? ⟨(ad235.add ((x5_1).toNat * 7)).block, (ad235.add ((x5_1).toNat * 7)).off + 5, none⟩ = some (.int .i64 ((rd_T37 l0 x5_1).f1.f4.f0)) ∧ w'.cell? ⟨(ad235.add ((x5_1).toNat * 7)).block, (ad235.add ((x5_1).toNat * 7)).off + 6, none⟩ = some (.int .i64 ((rd_T37 l0 x5_1).f1.f4.f1)) ∧ w'.cell? (ad236.add ((x5_1).toNat * 7)) = some (.string ((rd_T37 l1 x5_1).f0)) ∧ w'.cell? ⟨(ad236.add ((x5_1).toNat * 7)).block, (ad236.add ((x5_1).toNat * 7)).off + 1, none⟩ = some (.int .i64 ((rd_T37 l1 x5_1).f1.f0)) ∧ w'.cell? ⟨(ad236.add ((x5_1).toNat * 7)).block, (ad236.add ((x5_1).toNat * 7)).off + 2, none⟩ = some (.int .i64 ((rd_T37 l1 x5_1).f1.f1)) ∧ w'.cell? ⟨(ad236.add ((x5_1).toNat * 7)).block, (ad236.add ((x5_1).toNat * 7)).off + 3, none⟩ = some (.slice A239_3 ((rd_T37 l1 x5_1).f1.f2).length c239_3) ∧ w'.cell? ⟨(ad236.add ((x5_1).toNat * 7)).block, (ad236.add ((x5_1).toNat * 7)).off + 4, none⟩ = some (.slice A239_4 ((rd_T37 l1 x5_1).f1.f3).length c239_4) ∧ w'.cell? ⟨(ad236.add ((x5_1).toNat * 7)).block, (ad236.add ((x5_1).toNat * 7)).off + 5, none⟩ = some (.int .i64 ((rd_T37 l1 x5_1).f1.f4.f0)) ∧ w'.cell? ⟨(ad236.add ((x5_1).toNat * 7)).block, (ad236.add ((x5_1).toNat * 7)).off + 6, none⟩ = some (.int .i64 ((rd_T37 l1 x5_1).f1.f4.f1))) (ds := []) #[false, false, false, false, false, false, false, false, false, false, false, false, false, false, false] (by kernel_rfl) rfl rfl ⟨((HB.out.cell (World.block_lt_of_cell? w _ hw238_0)).trans (by first | exact hw238_0)), ((HB.out.cell (World.block_lt_of_cell? w _ hw238_1)).trans (by first | exact hw238_1)), ((HB.out.cell (World.block_lt_of_cell? w _ hw238_2)).trans (by first | exact hw238_2)), ((HB.out.cell (World.block_lt_of_cell? w _ hw238_3)).trans (by first | exact hw238_3)), ((HB.out.cell (World.block_lt_of_cell? w _ hw238_4)).trans (by first | exact hw238_4)), ((HB.out.cell (World.block_lt_of_cell? w _ hw238_5)).trans (by first | exact hw238_5)), ((HB.out.cell (World.block_lt_of_cell? w _ hw238_6)).trans (by first | exact hw238_6)), ((HB.out.cell (World.block_lt_of_cell? w _ hw239_0)).trans (by first | exact hw239_0)), ((HB.out.cell (World.block_lt_of_cell? w _ hw239_1)).trans (by first | exact hw239_1)), ((HB.out.cell (World.block_lt_of_cell? w _ hw239_2)).trans (by first | exact hw239_2)), ((HB.out.cell (World.block_lt_of_cell? w _ hw239_3)).trans (by first | exact hw239_3)), ((HB.out.cell (World.block_lt_of_cell? w _ hw239_4)).trans (by first | exact hw239_4)), ((HB.out.cell (World.block_lt_of_cell? w _ hw239_5)).trans (by first | exact hw239_5)), ((HB.out.cell (World.block_lt_of_cell? w _ hw239_6)).trans (by first | exact hw239_6))⟩ (fun hHeld => ?_); refine with_tabW selvedgeref11_Entries.tab7 selvedgeref11_Entries.bits7 (fun HT_ HW_ => ?_)
         generalize w14.drew = w15 at HB HR238_3 HR238_4 HR239_3 HR239_4 hx238_0 hx238_1 hx238_2 hx238_3 hx238_4 hx238_5 hx238_6 hx239_0 hx239_1 hx239_2 hx239_3 hx239_4 hx239_5 hx239_6 hHeld ⊢
         refine pure_ (i := 0) (N := some 29) (v := ?_) (a' := ?_) #[true, false, false, false, false, false, false, false, false, false, false, false, false, false, false] rfl rfl (any_of HT_.out (by kernel_rfl)) (fun _ _ _ h => h) (Or.inl ⟨by rfl, ?_⟩) ?_ ?_
         rotate_left
         ·
          intro w'
          go_simp
          with_reducible rfl
         rotate_left
         ·
          simp only [Act.put, List.setIfInBounds_toArray, List.set_cons_zero, List.set_cons_succ, i64_w, i32_w]
          rfl
         refine pure_ (i := 1) (N := some 30) (v := ?_) (a' := ?_) #[true, true, false, false, false, false, false, false, false, false, false, false, false, false, false] rfl rfl (any_of HT_.out (by kernel_rfl)) (fun _ _ _ h => h) (Or.inl ⟨by rfl, ?_⟩) ?_ ?_
         rotate_left
         ·
          intro w'
          go_simp
          with_reducible rfl
         rotate_left
         ·
          simp only [Act.put, List.setIfInBounds_toArray, List.set_cons_zero, List.set_cons_succ, i64_w, i32_w]
          rfl
         refine pure_ (i := 2) (N := some 31) (v := ?_) (a' := ?_) #[true, true, true, false, false, false, false, false, false, false, false, false, false, false, false] rfl rfl (any_of HT_.out (by kernel_rfl)) (fun _ _ _ h => h) (Or.inl ⟨by rfl, ?_⟩) ?_ ?_
         rotate_left
         ·
          intro w'
          go_simp
          with_reducible rfl
         rotate_left
         ·
          simp only [Act.put, List.setIfInBounds_toArray, List.set_cons_zero, List.set_cons_succ, i64_w, i32_w]
          rfl
         refine pure_ (i := 3) (N := some 32) (v := ?_) (a' := ?_) #[true, true, true, true, false, false, false, false, false, false, false, false, false, false, false] rfl rfl (any_of HT_.out (by kernel_rfl)) (fun _ _ _ h => h) (Or.inl ⟨by rfl, ?_⟩) ?_ ?_
         rotate_left
         ·
          intro w'
          go_simp
          with_reducible rfl
         rotate_left
         ·
          simp only [Act.put, List.setIfInBounds_toArray, List.set_cons_zero, List.set_cons_succ, i64_w, i32_w]
          rfl
         refine pure_ (i := 4) (N := some 33) (v := ?_) (a' := ?_) #[true, true, true, true, true, false, false, false, false, false, false, false, false, false, false] rfl rfl (any_of HT_.out (by kernel_rfl)) (fun _ _ _ h => h) (Or.inl ⟨by rfl, ?_⟩) ?_ ?_
         rotate_left
         ·
          intro w'
          go_simp
          with_reducible rfl
         rotate_left
         ·
          simp only [Act.put, List.setIfInBounds_toArray, List.set_cons_zero, List.set_cons_succ, i64_w, i32_w]
          rfl
         refine pure_ (i := 5) (N := some 34) (v := ?_) (a' := ?_) #[true, true, true, true, true, true, false, false, false, false, false, false, false, false, false] rfl rfl (any_of HT_.out (by kernel_rfl)) (fun _ _ _ h => h) (Or.inl ⟨by rfl, ?_⟩) ?_ ?_
         rotate_left
         ·
          intro w'
          go_simp
          with_reducible rfl
         rotate_left
         ·
          simp only [Act.put, List.setIfInBounds_toArray, List.set_cons_zero, List.set_cons_succ, i64_w, i32_w]
          rfl
         refine pure_ (i := 6) (N := some 35) (v := ?_) (a' := ?_) #[true, true, true, true, true, true, true, false, false, false, false, false, false, false, false] rfl rfl (any_of HT_.out (by kernel_rfl)) (fun _ _ _ h => h) (Or.inl ⟨by rfl, ?_⟩) ?_ ?_
         rotate_left
         ·
          intro w'
          go_simp
          with_reducible rfl
         rotate_left
         ·
          simp only [Act.put, List.setIfInBounds_toArray, List.set_cons_zero, List.set_cons_succ, i64_w, i32_w]
          rfl
         refine pure_ (i := 8) (N := some 37) (v := ?_) (a' := ?_) #[true, true, true, true, true, true, true, false, true, false, false, false, false, false, false] rfl rfl (any_of HT_.out (by kernel_rfl)) (fun _ _ _ h => h) (Or.inl ⟨by rfl, ?_⟩) ?_ ?_
         rotate_left
         ·
          intro w'
          go_simp
          with_reducible rfl
         rotate_left
         ·
          simp only [Act.put, List.setIfInBounds_toArray, List.set_cons_zero, List.set_cons_succ, i64_w, i32_w]
          rfl
         refine pure_ (i := 9) (N := some 38) (v := ?_) (a' := ?_) #[true, true, true, true, true, true, true, false, true, true, false, false, false, false, false] rfl rfl (any_of HT_.out (by kernel_rfl)) (fun _ _ _ h => h) (Or.inl ⟨by rfl, ?_⟩) ?_ ?_
         rotate_left
         ·
          intro w'
          go_simp
          with_reducible rfl
         rotate_left
         ·
          simp only [Act.put, List.setIfInBounds_toArray, List.set_cons_zero, List.set_cons_succ, i64_w, i32_w]
          rfl
         refine pure_ (i := 10) (N := some 39) (v := ?_) (a' := ?_) #[true, true, true, true, true, true, true, false, true, true, true, false, false, false, false] rfl rfl (any_of HT_.out (by kernel_rfl)) (fun _ _ _ h => h) (Or.inl ⟨by rfl, ?_⟩) ?_ ?_
         rotate_left
         ·
          intro w'
          go_simp
          with_reducible rfl
         rotate_left
         ·
          simp only [Act.put, List.setIfInBounds_toArray, List.set_cons_zero, List.set_cons_succ, i64_w, i32_w]
          rfl
         refine pure_ (i := 11) (N := some 40) (v := ?_) (a' := ?_) #[true, true, true, true, true, true, true, false, true, true, true, true, false, false, false] rfl rfl (any_of HT_.out (by kernel_rfl)) (fun _ _ _ h => h) (Or.inl ⟨by rfl, ?_⟩) ?_ ?_
         rotate_left
         ·
          intro w'
          go_simp
          with_reducible rfl
         rotate_left
         ·
          simp only [Act.put, List.setIfInBounds_toArray, List.set_cons_zero, List.set_cons_succ, i64_w, i32_w]
          rfl
         refine take_ (i := 7) (N := some 36) (v := ?_) (a' := ?_) #[true, true, true, true, true, true, true, true, true, true, true, true, false, false, false] rfl rfl (take_ofW HT_.out HW_.out (by kernel_rfl)) (fun _ _ _ h => h) (Or.inl ⟨by rfl, ?_⟩) hHeld ?_ ?_
         rotate_left
         ·
          rintro w' ⟨s0, s1, s2, s3, s4, s5, s6, s7, s8, s9, s10, s11, s12, s13⟩
          go_simp
          with_reducible rfl
         rotate_left
         ·
          simp only [Act.put, List.setIfInBounds_toArray, List.set_cons_zero, List.set_cons_succ, i64_w, i32_w]
          rfl
         refine take_ (i := 12) (N := some 41) (v := ?_) (a' := ?_) #[true, true, true, true, true, true, true, true, true, true, true, true, true, false, false] rfl rfl (take_ofW HT_.out HW_.out (by kernel_rfl)) (fun _ _ _ h => h) (Or.inl ⟨by rfl, ?_⟩) hHeld ?_ ?_
         rotate_left
         ·
          rintro w' ⟨s0, s1, s2, s3, s4, s5, s6, s7, s8, s9, s10, s11, s12, s13⟩
          go_simp
          with_reducible rfl
         rotate_left
         ·
          simp only [Act.put, List.setIfInBounds_toArray, List.set_cons_zero, List.set_cons_succ, i64_w, i32_w]
          rfl
         refine pure_ (i := 13) (N := some 42) (v := ?_) (a' := ?_) #[true, true, true, true, true, true, true, true, true, true, true, true, true, true, false] rfl rfl (any_of HT_.out (by kernel_rfl)) (fun _ _ _ h => h) (Or.inl ⟨by rfl, ?_⟩) ?_ ?_
         rotate_left
         ·
          intro w'
          go_simp
          with_reducible rfl
         rotate_left
         ·
          simp only [Act.put, List.setIfInBounds_toArray, List.set_cons_zero, List.set_cons_succ, i64_w, i32_w]
          rfl
         refine pure_ (i := 14) (N := some 43) (v := ?_) (a' := ?_) #[true, true, true, true, true, true, true, true, true, true, true, true, true, true, true] rfl rfl (any_of HT_.out (by kernel_rfl)) (fun _ _ _ h => h) (Or.inl ⟨by rfl, ?_⟩) ?_ ?_
         rotate_left
         ·
          intro w'
          go_simp
          with_reducible rfl
         rotate_left
         ·
          simp only [Act.put, List.setIfInBounds_toArray, List.set_cons_zero, List.set_cons_succ, i64_w, i32_w]
          rfl
         refine done_ (done_of HT_.out (by kernel_rfl)) ?_
         try go_wp2
         go_ret
         exact ⟨by first | rfl | (simp [errW_none, errW_some] <;> rfl) | (simp [*, errW_none, errW_some] <;> rfl), by repeat (first | (with_reducible first | exact HB.out | apply below_alloc | apply pw_below_drewN | apply below_drew1) | exact HB.out)⟩
       ·
        replace c8 := Bool.eq_false_iff.mpr c8
        subst c8
        have H1 : (some false) = some r := by rw [if_neg (show ¬ (false = true) by decide)] at H; exact H
        clear H
        have H := H1
        clear H1
        obtain rfl := Option.some.inj H
        try go_wp2
        have n0_ := Aside0.mk (below_drew1 HB.out)
        clear HB
        have HB := n0_
        clear n0_
        have p235 : 0 ≤ (x5_1 : Int) := of_decide_eq_true (by first | (with_reducible assumption) | assumption)
        have q235 : x5_1 < (l0.length : Int) := of_decide_eq_true (by first | (with_reducible assumption) | assumption)
        obtain ⟨ad235, A235_3, c235_3, A235_4, c235_4, e235, hx235_0, hx235_1, hx235_2, hx235_3, hx235_4, hx235_5, hx235_6, hl235_3, hi235_3, hl235_4, hi235_4⟩ := at_T37 HR0.out x5_1 p235 q235
        have hw235_6 := hx235_6
        have hw235_5 := hx235_5
        have hw235_4 := hx235_4
        have hw235_3 := hx235_3
        have hw235_2 := hx235_2
        have hw235_1 := hx235_1
        have hw235_0 := hx235_0
        cases e235
        replace hx235_0 := (HB.out.cell (World.block_lt_of_cell? w _ hx235_0)).trans hx235_0
        replace hx235_1 := (HB.out.cell (World.block_lt_of_cell? w _ hx235_1)).trans hx235_1
        replace hx235_2 := (HB.out.cell (World.block_lt_of_cell? w _ hx235_2)).trans hx235_2
        replace hx235_3 := (HB.out.cell (World.block_lt_of_cell? w _ hx235_3)).trans hx235_3
        replace hx235_4 := (HB.out.cell (World.block_lt_of_cell? w _ hx235_4)).trans hx235_4
        replace hx235_5 := (HB.out.cell (World.block_lt_of_cell? w _ hx235_5)).trans hx235_5
        replace hx235_6 := (HB.out.cell (World.block_lt_of_cell? w _ hx235_6)).trans hx235_6
        have HR235_3 := Aside0.mk hi235_3
        have HC235_3 := Aside0.mk hl235_3
        clear hi235_3 hl235_3
        have HR235_4 := Aside0.mk hi235_4
        have HC235_4 := Aside0.mk hl235_4
        clear hi235_4 hl235_4
        replace p235 := eq_true p235
        replace q235 := eq_true q235
        have p236 : 0 ≤ (x5_1 : Int) := of_decide_eq_true (by first | (with_reducible assumption) | assumption)
        have q236 : x5_1 < (l1.length : Int) := of_decide_eq_true (by first | (with_reducible assumption) | assumption)
        obtain ⟨ad236, A236_3, c236_3, A236_4, c236_4, e236, hx236_0, hx236_1, hx236_2, hx236_3, hx236_4, hx236_5, hx236_6, hl236_3, hi236_3, hl236_4, hi236_4⟩ := at_T37 HR1.out x5_1 p236 q236
        have hw236_6 := hx236_6
        have hw236_5 := hx236_5
        have hw236_4 := hx236_4
        have hw236_3 := hx236_3
        have hw236_2 := hx236_2
        have hw236_1 := hx236_1
        have hw236_0 := hx236_0
        cases e236
        replace hx236_0 := (HB.out.cell (World.block_lt_of_cell? w _ hx236_0)).trans hx236_0
        replace hx236_1 := (HB.out.cell (World.block_lt_of_cell? w _ hx236_1)).trans hx236_1
        replace hx236_2 := (HB.out.cell (World.block_lt_of_cell? w _ hx236_2)).trans hx236_2
        replace hx236_3 := (HB.out.cell (World.block_lt_of_cell? w _ hx236_3)).trans hx236_3
        replace hx236_4 := (HB.out.cell (World.block_lt_of_cell? w _ hx236_4)).trans hx236_4
        replace hx236_5 := (HB.out.cell (World.block_lt_of_cell? w _ hx236_5)).trans hx236_5
        replace hx236_6 := (HB.out.cell (World.block_lt_of_cell? w _ hx236_6)).trans hx236_6
        have HR236_3 := Aside0.mk hi236_3
        have HC236_3 := Aside0.mk hl236_3
        clear hi236_3 hl236_3
        have HR236_4 := Aside0.mk hi236_4
        have HC236_4 := Aside0.mk hl236_4
        clear hi236_4 hl236_4
        replace p236 := eq_true p236
        replace q236 := eq_true q236
        refine start_ (n := 12) (S := fun w' => w'.cell? (ad235.add ((x5_1).toNat * 7)) = some (.string ((rd_T37 l0 x5_1).f0)) ∧ w'.cell? ⟨(ad235.add ((x5_1).toNat * 7)).block, (ad235.add ((x5_1).toNat * 7)).off + 1, none⟩ = some (.int .i64 ((rd_T37 l0 x5_1).f1.f0)) ∧ w'.cell? ⟨(ad235.add ((x5_1).toNat * 7)).block, (ad235.add ((x5_1).toNat * 7)).off + 2, none⟩ = some (.int .i64 ((rd_T37 l0 x5_1).f1.f1)) ∧ w'.cell? ⟨(ad235.add ((x5_1).toNat * 7)).block, (ad235.add ((x5_1).toNat * 7)).off + 3, none⟩ = some (.slice A235_3 ((rd_T37 l0 x5_1).f1.f2).length c235_3) ∧ w'.cell? ⟨(ad235.add ((x5_1).toNat * 7)).block, (ad235.add ((x5_1).toNat * 7)).off + 4, none⟩ = some (.slice A235_4 ((rd_T37 l0 x5_1).f1.f3).length c235_4) ∧ w'.cell? ⟨(ad235.add ((x5_1).toNat * 7)).block, (ad235.add ((x5_1).toNat * 7)).off + 5, none⟩ = some (.int .i64 ((rd_T37 l0 x5_1).f1.f4.f0)) ∧ w'.cell? ⟨(ad235.add ((x5_1).toNat * 7)).block, (ad235.add ((x5_1).toNat * 7)).off + 6, none⟩ = some (.int .i64 ((rd_T37 l0 x5_1).f1.f4.f1)) ∧ w'.cell? (ad236.add ((x5_1).toNat * 7)) = some (.string ((rd_T37 l1 x5_1).f0)) ∧ w'.cell? ⟨(ad236.add ((x5_1).toNat * 7)).block, (ad236.add ((x5_1).toNat * 7)).off + 1, none⟩ = some (.int .i64 ((rd_T37 l1 x5_1).f1.f0)) ∧ w'.cell? ⟨(ad236.add ((x5_1).toNat * 7)).block, (ad236.add ((x5_1).toNat * 7)).off + 2, none⟩ = some (.int .i64 ((rd_T37 l1 x5_1).f1.f1)) ∧ w'.cell? ⟨(ad236.add ((x5_1).toNat * 7)).block, (ad236.add ((x5_1).toNat * 7)).off + 3, none⟩ = some (.slice A236_3 ((rd_T37 l1 x5_1).f1.f2).length c236_3) ∧ w'.cell? ⟨(ad236.add ((x5_1).toNat * 7)).block, (ad236.add ((x5_1).toNat * 7)).off + 4, none⟩ = some (.slice A236_4 ((rd_T37 l1 x5_1).f1.f3).length c236_4) ∧ w'.cell? ⟨(ad236.add ((x5_1).toNat * 7)).block, (ad236.add ((x5_1).toNat * 7)).off + 5, none⟩ = some (.int .i64 ((rd_T37 l1 x5_1).f1.f4.f0)) ∧ w'.cell? ⟨(ad236.add ((x5_1).toNat * 7)).block, (ad236.add ((x5_1).toNat * 7)).off + 6, none⟩ = some (.int .i64 ((rd_T37 l1 x5_1).f1.f4.f1))) (ds := []) #[false, false, false, false, false, false, false, false, false, false, false, false] (by kernel_rfl) rfl rfl ⟨((HB.out.cell (World.block_lt_of_cell? w _ hw235_0)).trans (by first | exact hw235_0)), ((HB.out.cell (World.block_lt_of_cell? w _ hw235_1)).trans (by first | exact hw235_1)), ((HB.out.cell (World.block_lt_of_cell? w _ hw235_2)).trans (by first | exact hw235_2)), ((HB.out.cell (World.block_lt_of_cell? w _ hw235_3)).trans (by first | exact hw235_3)), ((HB.out.cell (World.block_lt_of_cell? w _ hw235_4)).trans (by first | exact hw235_4)), ((HB.out.cell (World.block_lt_of_cell? w _ hw235_5)).trans (by first | exact hw235_5)), ((HB.out.cell (World.block_lt_of_cell? w _ hw235_6)).trans (by first | exact hw235_6)), ((HB.out.cell (World.block_lt_of_cell? w _ hw236_0)).trans (by first | exact hw236_0)), ((HB.out.cell (World.block_lt_of_cell? w _ hw236_1)).trans (by first | exact hw236_1)), ((HB.out.cell (World.block_lt_of_cell? w _ hw236_2)).trans (by first | exact hw236_2)), ((HB.out.cell (World.block_lt_of_cell? w _ hw236_3)).trans (by first | exact hw236_3)), ((HB.out.cell (World.block_lt_of_cell? w _ hw236_4)).trans (by first | exact hw236_4)), ((HB.out.cell (World.block_lt_of_cell? w _ hw236_5)).trans (by first | exact hw236_5)), ((HB.out.cell (World.block_lt_of_cell? w _ hw236_6)).trans (by first | exact hw236_6))⟩ (fun hHeld => ?_); refine with_tabW selvedgeref11_Entries.tab6 selvedgeref11_Entries.bits6 (fun HT_ HW_ => ?_)
        generalize wr.drew = w16 at HB HR235_3 HR235_4 HR236_3 HR236_4 hx235_0 hx235_1 hx235_2 hx235_3 hx235_4 hx235_5 hx235_6 hx236_0 hx236_1 hx236_2 hx236_3 hx236_4 hx236_5 hx236_6 hHeld ⊢
        refine pure_ (i := 0) (N := some 18) (v := ?_) (a' := ?_) #[true, false, false, false, false, false, false, false, false, false, false, false] rfl rfl (any_of HT_.out (by kernel_rfl)) (fun _ _ _ h => h) (Or.inl ⟨by rfl, ?_⟩) ?_ ?_
        rotate_left
        ·
         intro w'
         go_simp
         with_reducible rfl
        rotate_left
        ·
         simp only [Act.put, List.setIfInBounds_toArray, List.set_cons_zero, List.set_cons_succ, i64_w, i32_w]
         rfl
        refine pure_ (i := 1) (N := some 19) (v := ?_) (a' := ?_) #[true, true, false, false, false, false, false, false, false, false, false, false] rfl rfl (any_of HT_.out (by kernel_rfl)) (fun _ _ _ h => h) (Or.inl ⟨by rfl, ?_⟩) ?_ ?_
        rotate_left
        ·
         intro w'
         go_simp
         with_reducible rfl
        rotate_left
        ·
         simp only [Act.put, List.setIfInBounds_toArray, List.set_cons_zero, List.set_cons_succ, i64_w, i32_w]
         rfl
        refine pure_ (i := 2) (N := some 20) (v := ?_) (a' := ?_) #[true, true, true, false, false, false, false, false, false, false, false, false] rfl rfl (any_of HT_.out (by kernel_rfl)) (fun _ _ _ h => h) (Or.inl ⟨by rfl, ?_⟩) ?_ ?_
        rotate_left
        ·
         intro w'
         go_simp
         with_reducible rfl
        rotate_left
        ·
         simp only [Act.put, List.setIfInBounds_toArray, List.set_cons_zero, List.set_cons_succ, i64_w, i32_w]
         rfl
        refine pure_ (i := 3) (N := some 21) (v := ?_) (a' := ?_) #[true, true, true, true, false, false, false, false, false, false, false, false] rfl rfl (any_of HT_.out (by kernel_rfl)) (fun _ _ _ h => h) (Or.inl ⟨by rfl, ?_⟩) ?_ ?_
        rotate_left
        ·
         intro w'
         go_simp
         with_reducible rfl
        rotate_left
        ·
         simp only [Act.put, List.setIfInBounds_toArray, List.set_cons_zero, List.set_cons_succ, i64_w, i32_w]
         rfl
        refine pure_ (i := 5) (N := some 23) (v := ?_) (a' := ?_) #[true, true, true, true, false, true, false, false, false, false, false, false] rfl rfl (any_of HT_.out (by kernel_rfl)) (fun _ _ _ h => h) (Or.inl ⟨by rfl, ?_⟩) ?_ ?_
        rotate_left
        ·
         intro w'
         go_simp
         with_reducible rfl
        rotate_left
        ·
         simp only [Act.put, List.setIfInBounds_toArray, List.set_cons_zero, List.set_cons_succ, i64_w, i32_w]
         rfl
        refine pure_ (i := 6) (N := some 24) (v := ?_) (a' := ?_) #[true, true, true, true, false, true, true, false, false, false, false, false] rfl rfl (any_of HT_.out (by kernel_rfl)) (fun _ _ _ h => h) (Or.inl ⟨by rfl, ?_⟩) ?_ ?_
        rotate_left
        ·
         intro w'
         go_simp
         with_reducible rfl
        rotate_left
        ·
         simp only [Act.put, List.setIfInBounds_toArray, List.set_cons_zero, List.set_cons_succ, i64_w, i32_w]
         rfl
        refine pure_ (i := 7) (N := some 25) (v := ?_) (a' := ?_) #[true, true, true, true, false, true, true, true, false, false, false, false] rfl rfl (any_of HT_.out (by kernel_rfl)) (fun _ _ _ h => h) (Or.inl ⟨by rfl, ?_⟩) ?_ ?_
        rotate_left
        ·
         intro w'
         go_simp
         with_reducible rfl
        rotate_left
        ·
         simp only [Act.put, List.setIfInBounds_toArray, List.set_cons_zero, List.set_cons_succ, i64_w, i32_w]
         rfl
        refine pure_ (i := 8) (N := some 26) (v := ?_) (a' := ?_) #[true, true, true, true, false, true, true, true, true, false, false, false] rfl rfl (any_of HT_.out (by kernel_rfl)) (fun _ _ _ h => h) (Or.inl ⟨by rfl, ?_⟩) ?_ ?_
        rotate_left
        ·
         intro w'
         go_simp
         with_reducible rfl
        rotate_left
        ·
         simp only [Act.put, List.setIfInBounds_toArray, List.set_cons_zero, List.set_cons_succ, i64_w, i32_w]
         rfl
        refine take_ (i := 4) (N := some 22) (v := ?_) (a' := ?_) #[true, true, true, true, true, true, true, true, true, false, false, false] rfl rfl (take_ofW HT_.out HW_.out (by kernel_rfl)) (fun _ _ _ h => h) (Or.inl ⟨by rfl, ?_⟩) hHeld ?_ ?_
        rotate_left
        ·
         rintro w' ⟨s0, s1, s2, s3, s4, s5, s6, s7, s8, s9, s10, s11, s12, s13⟩
         go_simp
         with_reducible rfl
        rotate_left
        ·
         simp only [Act.put, List.setIfInBounds_toArray, List.set_cons_zero, List.set_cons_succ, i64_w, i32_w]
         rfl
        refine take_ (i := 9) (N := some 27) (v := ?_) (a' := ?_) #[true, true, true, true, true, true, true, true, true, true, false, false] rfl rfl (take_ofW HT_.out HW_.out (by kernel_rfl)) (fun _ _ _ h => h) (Or.inl ⟨by rfl, ?_⟩) hHeld ?_ ?_
        rotate_left
        ·
         rintro w' ⟨s0, s1, s2, s3, s4, s5, s6, s7, s8, s9, s10, s11, s12, s13⟩
         go_simp
         with_reducible rfl
        rotate_left
        ·
         simp only [Act.put, List.setIfInBounds_toArray, List.set_cons_zero, List.set_cons_succ, i64_w, i32_w]
         rfl
        refine one_ (i := 10) (N := some 28) #[true, true, true, true, true, true, true, true, true, true, true, false] rfl rfl (one_of HT_.out (by kernel_rfl)) (by decide) (fun K hK => ?_)
        refine goes_ Try.func57 (by kernel_rfl) rfl #[.agg #[.int .i64 ((rd_T37 l0 x5_1).f1.f0), .int .i64 ((rd_T37 l0 x5_1).f1.f1), .slice A235_3 ((rd_T37 l0 x5_1).f1.f2).length c235_3, .slice A235_4 ((rd_T37 l0 x5_1).f1.f3).length c235_4, .int .i64 ((rd_T37 l0 x5_1).f1.f4.f0), .int .i64 ((rd_T37 l0 x5_1).f1.f4.f1)], .agg #[.int .i64 ((rd_T37 l1 x5_1).f1.f0), .int .i64 ((rd_T37 l1 x5_1).f1.f1), .slice A236_3 ((rd_T37 l1 x5_1).f1.f2).length c236_3, .slice A236_4 ((rd_T37 l1 x5_1).f1.f3).length c236_4, .int .i64 ((rd_T37 l1 x5_1).f1.f4.f0), .int .i64 ((rd_T37 l1 x5_1).f1.f4.f1)]] (by rfl) rfl rfl (by (try simp only [List.map_toArray, List.map_cons, List.map_nil]); first | done | rfl | (simp only [List.length_drop, List.length_take]; rfl)) ?_
        with_reducible refine (selvedgeref08_Same.calls k1 ((rd_T37 l0 x5_1).f1.f0) ((rd_T37 l0 x5_1).f1.f1) _ _ ((rd_T37 l0 x5_1).f1.f2) _ _ ((rd_T37 l0 x5_1).f1.f3) ((rd_T37 l0 x5_1).f1.f4.f0) ((rd_T37 l0 x5_1).f1.f4.f1) ((rd_T37 l1 x5_1).f1.f0) ((rd_T37 l1 x5_1).f1.f1) _ _ ((rd_T37 l1 x5_1).f1.f2) _ _ ((rd_T37 l1 x5_1).f1.f3) ((rd_T37 l1 x5_1).f1.f4.f0) ((rd_T37 l1 x5_1).f1.f4.f1) false _ ?side1 ?side2 ?side3 ?side4 ?side5 ?side6 ?side7 ?side8 A7.out).mono ?_
        (case side1 => repeat (first | exact (Kd.C_below HR235_3.out HB.out) | (with_reducible refine Kd.C_alloc ?_ _) | (with_reducible refine Kd.C_drewN ?_ _) | (with_reducible refine Kd.C_drew ?_)))
        (case side2 => exact HC235_3.out)
        (case side3 => repeat (first | exact (Kd.C_below HR235_4.out HB.out) | (with_reducible refine Kd.C_alloc ?_ _) | (with_reducible refine Kd.C_drewN ?_ _) | (with_reducible refine Kd.C_drew ?_)))
        (case side4 => exact HC235_4.out)
        (case side5 => repeat (first | exact (Kd.C_below HR236_3.out HB.out) | (with_reducible refine Kd.C_alloc ?_ _) | (with_reducible refine Kd.C_drewN ?_ _) | (with_reducible refine Kd.C_drew ?_)))
        (case side6 => exact HC236_3.out)
        (case side7 => repeat (first | exact (Kd.C_below HR236_4.out HB.out) | (with_reducible refine Kd.C_alloc ?_ _) | (with_reducible refine Kd.C_drewN ?_ _) | (with_reducible refine Kd.C_drew ?_)))
        (case side8 => exact HC236_4.out)
        rintro e w17 ⟨rfl, hb⟩
        refine ⟨_, rfl, ?_⟩
        have n0_ := Aside0.mk (below_step (by repeat (first | (with_reducible first | exact HB.out | apply below_alloc | apply pw_below_drewN | apply below_drew1) | exact HB.out)) hb)
        clear HB
        have HB := n0_
        clear n0_
        (try clear hb)
        (try clear hb2)
        (try clear hk)
        (try clear hi)
        refine hK.out _ _ ⟨((HB.out.cell (World.block_lt_of_cell? w _ hw235_0)).trans (by first | exact hw235_0)), ((HB.out.cell (World.block_lt_of_cell? w _ hw235_1)).trans (by first | exact hw235_1)), ((HB.out.cell (World.block_lt_of_cell? w _ hw235_2)).trans (by first | exact hw235_2)), ((HB.out.cell (World.block_lt_of_cell? w _ hw235_3)).trans (by first | exact hw235_3)), ((HB.out.cell (World.block_lt_of_cell? w _ hw235_4)).trans (by first | exact hw235_4)), ((HB.out.cell (World.block_lt_of_cell? w _ hw235_5)).trans (by first | exact hw235_5)), ((HB.out.cell (World.block_lt_of_cell? w _ hw235_6)).trans (by first | exact hw235_6)), ((HB.out.cell (World.block_lt_of_cell? w _ hw236_0)).trans (by first | exact hw236_0)), ((HB.out.cell (World.block_lt_of_cell? w _ hw236_1)).trans (by first | exact hw236_1)), ((HB.out.cell (World.block_lt_of_cell? w _ hw236_2)).trans (by first | exact hw236_2)), ((HB.out.cell (World.block_lt_of_cell? w _ hw236_3)).trans (by first | exact hw236_3)), ((HB.out.cell (World.block_lt_of_cell? w _ hw236_4)).trans (by first | exact hw236_4)), ((HB.out.cell (World.block_lt_of_cell? w _ hw236_5)).trans (by first | exact hw236_5)), ((HB.out.cell (World.block_lt_of_cell? w _ hw236_6)).trans (by first | exact hw236_6))⟩ (fun hHeld => ?_)
        clear hK K
        refine norm_ (a' := ?_) ?_ ?_
        rotate_left
        ·
         show Act.put _ (some 28) _ = _
         simp only [Act.put, List.setIfInBounds_toArray, List.set_cons_zero, List.set_cons_succ, i64_w, i32_w]
         rfl
        refine pure_ (i := 11) (N := some 6) (v := ?_) (a' := ?_) #[true, true, true, true, true, true, true, true, true, true, true, true] rfl rfl (any_of HT_.out (by kernel_rfl)) (fun _ _ _ h => h) (Or.inl ⟨by rfl, ?_⟩) ?_ ?_
        rotate_left
        ·
         intro w'
         go_simp
         with_reducible rfl
        rotate_left
        ·
         simp only [Act.put, List.setIfInBounds_toArray, List.set_cons_zero, List.set_cons_succ, i64_w, i32_w]
         rfl
        refine done_ (done_of HT_.out (by kernel_rfl)) ?_
        try go_wp2
        have n0_ := Aside0.mk (below_drew1 HB.out)
        clear HB
        have HB := n0_
        clear n0_
        refine start_ (n := 15) (S := fun w' => True) (ds := []) #[false, false, false, false, false, false, false, false, false, false, false, false, false, false, false] (by kernel_rfl) rfl rfl trivial (fun hHeld => ?_); refine with_tabW selvedgeref11_Entries.tab7 selvedgeref11_Entries.bits7 (fun HT_ HW_ => ?_)
        generalize w17.drew = w18 at HB hHeld ⊢
        refine pure_ (i := 0) (N := some 29) (v := ?_) (a' := ?_) #[true, false, false, false, false, false, false, false, false, false, false, false, false, false, false] rfl rfl (any_of HT_.out (by kernel_rfl)) (fun _ _ _ h => h) (Or.inl ⟨by rfl, ?_⟩) ?_ ?_
        rotate_left
        ·
         intro w'
         go_simp
         with_reducible rfl
        rotate_left
        ·
         simp only [Act.put, List.setIfInBounds_toArray, List.set_cons_zero, List.set_cons_succ, i64_w, i32_w]
         rfl
        refine pure_ (i := 1) (N := some 30) (v := ?_) (a' := ?_) #[true, true, false, false, false, false, false, false, false, false, false, false, false, false, false] rfl rfl (any_of HT_.out (by kernel_rfl)) (fun _ _ _ h => h) (Or.inl ⟨by rfl, ?_⟩) ?_ ?_
        rotate_left
        ·
         intro w'
         go_simp
         with_reducible rfl
        rotate_left
        ·
         simp only [Act.put, List.setIfInBounds_toArray, List.set_cons_zero, List.set_cons_succ, i64_w, i32_w]
         rfl
        refine pure_ (i := 2) (N := some 31) (v := ?_) (a' := ?_) #[true, true, true, false, false, false, false, false, false, false, false, false, false, false, false] rfl rfl (any_of HT_.out (by kernel_rfl)) (fun _ _ _ h => h) (Or.inl ⟨by rfl, ?_⟩) ?_ ?_
        rotate_left
        ·
         intro w'
         go_simp
         with_reducible rfl
        rotate_left
        ·
         simp only [Act.put, List.setIfInBounds_toArray, List.set_cons_zero, List.set_cons_succ, i64_w, i32_w]
         rfl
        refine pure_ (i := 3) (N := some 32) (v := undef) (a' := ?_) #[true, true, true, true, false, false, false, false, false, false, false, false, false, false, false] rfl rfl (any_of HT_.out (by kernel_rfl)) (fun _ _ _ h => h) (Or.inr ⟨by rfl, rfl⟩) ?_ ?_
        rotate_left
        ·
         simp only [Act.put, List.setIfInBounds_toArray, List.set_cons_zero, List.set_cons_succ, i64_w, i32_w]
         rfl
        refine pure_ (i := 4) (N := some 33) (v := undef) (a' := ?_) #[true, true, true, true, true, false, false, false, false, false, false, false, false, false, false] rfl rfl (any_of HT_.out (by kernel_rfl)) (fun _ _ _ h => h) (Or.inr ⟨by rfl, rfl⟩) ?_ ?_
        rotate_left
        ·
         simp only [Act.put, List.setIfInBounds_toArray, List.set_cons_zero, List.set_cons_succ, i64_w, i32_w]
         rfl
        refine pure_ (i := 5) (N := some 34) (v := undef) (a' := ?_) #[true, true, true, true, true, true, false, false, false, false, false, false, false, false, false] rfl rfl (any_of HT_.out (by kernel_rfl)) (fun _ _ _ h => h) (Or.inr ⟨by rfl, rfl⟩) ?_ ?_
        rotate_left
        ·
         simp only [Act.put, List.setIfInBounds_toArray, List.set_cons_zero, List.set_cons_succ, i64_w, i32_w]
         rfl
        refine pure_ (i := 6) (N := some 35) (v := undef) (a' := ?_) #[true, true, true, true, true, true, true, false, false, false, false, false, false, false, false] rfl rfl (any_of HT_.out (by kernel_rfl)) (fun _ _ _ h => h) (Or.inr ⟨by rfl, rfl⟩) ?_ ?_
        rotate_left
        ·
         simp only [Act.put, List.setIfInBounds_toArray, List.set_cons_zero, List.set_cons_succ, i64_w, i32_w]
         rfl
        refine pure_ (i := 7) (N := some 36) (v := undef) (a' := ?_) #[true, true, true, true, true, true, true, true, false, false, false, false, false, false, false] rfl rfl (any_of HT_.out (by kernel_rfl)) (fun _ _ _ h => h) (Or.inr ⟨by rfl, rfl⟩) ?_ ?_
        rotate_left
        ·
         simp only [Act.put, List.setIfInBounds_toArray, List.set_cons_zero, List.set_cons_succ, i64_w, i32_w]
         rfl
        refine pure_ (i := 8) (N := some 37) (v := undef) (a' := ?_) #[true, true, true, true, true, true, true, true, true, false, false, false, false, false, false] rfl rfl (any_of HT_.out (by kernel_rfl)) (fun _ _ _ h => h) (Or.inr ⟨by rfl, rfl⟩) ?_ ?_
        rotate_left
        ·
         simp only [Act.put, List.setIfInBounds_toArray, List.set_cons_zero, List.set_cons_succ, i64_w, i32_w]
         rfl
        refine pure_ (i := 9) (N := some 38) (v := undef) (a' := ?_) #[true, true, true, true, true, true, true, true, true, true, false, false, false, false, false] rfl rfl (any_of HT_.out (by kernel_rfl)) (fun _ _ _ h => h) (Or.inr ⟨by rfl, rfl⟩) ?_ ?_
        rotate_left
        ·
         simp only [Act.put, List.setIfInBounds_toArray, List.set_cons_zero, List.set_cons_succ, i64_w, i32_w]
         rfl
        refine pure_ (i := 10) (N := some 39) (v := undef) (a' := ?_) #[true, true, true, true, true, true, true, true, true, true, true, false, false, false, false] rfl rfl (any_of HT_.out (by kernel_rfl)) (fun _ _ _ h => h) (Or.inr ⟨by rfl, rfl⟩) ?_ ?_
        rotate_left
        ·
         simp only [Act.put, List.setIfInBounds_toArray, List.set_cons_zero, List.set_cons_succ, i64_w, i32_w]
         rfl
        refine pure_ (i := 11) (N := some 40) (v := undef) (a' := ?_) #[true, true, true, true, true, true, true, true, true, true, true, true, false, false, false] rfl rfl (any_of HT_.out (by kernel_rfl)) (fun _ _ _ h => h) (Or.inr ⟨by rfl, rfl⟩) ?_ ?_
        rotate_left
        ·
         simp only [Act.put, List.setIfInBounds_toArray, List.set_cons_zero, List.set_cons_succ, i64_w, i32_w]
         rfl
        refine pure_ (i := 12) (N := some 41) (v := undef) (a' := ?_) #[true, true, true, true, true, true, true, true, true, true, true, true, true, false, false] rfl rfl (any_of HT_.out (by kernel_rfl)) (fun _ _ _ h => h) (Or.inr ⟨by rfl, rfl⟩) ?_ ?_
        rotate_left
        ·
         simp only [Act.put, List.setIfInBounds_toArray, List.set_cons_zero, List.set_cons_succ, i64_w, i32_w]
         rfl
        refine pure_ (i := 13) (N := some 42) (v := undef) (a' := ?_) #[true, true, true, true, true, true, true, true, true, true, true, true, true, true, false] rfl rfl (any_of HT_.out (by kernel_rfl)) (fun _ _ _ h => h) (Or.inr ⟨by rfl, rfl⟩) ?_ ?_
        rotate_left
        ·
         simp only [Act.put, List.setIfInBounds_toArray, List.set_cons_zero, List.set_cons_succ, i64_w, i32_w]
         rfl
        refine pure_ (i := 14) (N := some 43) (v := ?_) (a' := ?_) #[true, true, true, true, true, true, true, true, true, true, true, true, true, true, true] rfl rfl (any_of HT_.out (by kernel_rfl)) (fun _ _ _ h => h) (Or.inl ⟨by rfl, ?_⟩) ?_ ?_
        rotate_left
        ·
         intro w'
         go_simp
         with_reducible rfl
        rotate_left
        ·
         simp only [Act.put, List.setIfInBounds_toArray, List.set_cons_zero, List.set_cons_succ, i64_w, i32_w]
         rfl
        refine done_ (done_of HT_.out (by kernel_rfl)) ?_
        try go_wp2
        go_ret
        exact ⟨by first | rfl | (simp [errW_none, errW_some] <;> rfl) | (simp [*, errW_none, errW_some] <;> rfl), by repeat (first | (with_reducible first | exact HB.out | apply below_alloc | apply pw_below_drewN | apply below_drew1) | exact HB.out)⟩
      ·
       rw [if_neg c6] at H
       exact absurd H (by simp)
     ·
      rw [if_neg c5] at H
      exact absurd H (by simp)
    ·
     rw [if_neg c4] at H
     have c4b0 : decide (x5_1 < (l0.length : Int)) = false := decide_eq_false c4
     clear c4
     obtain rfl := Option.some.inj H
     go_wp2
     go_ret
     exact ⟨by first | rfl | (simp [errW_none, errW_some] <;> rfl) | (simp [*, errW_none, errW_some] <;> rfl), by repeat (first | (with_reducible first | exact HB.out | apply below_alloc | apply pw_below_drewN | apply below_drew1) | exact HB.out)⟩
 ·
  rw [if_neg c3] at H
  have c3b0 : ((l0.length : Int) == (l1.length : Int)) = false := beq_eq_false_iff_ne.mpr c3
  have c3b1 : ((l0.length : Int) != (l1.length : Int)) = true := bne_iff_ne.mpr c3
  have c3b2 : (l0.length == l1.length) = false := by first | simpa using c3 | (simp at c3 ⊢; omega)
  obtain rfl := Option.some.inj H
  go_enter Try.func28, Try.ntmps28
  go_wp2
  go_ret
  exact ⟨by first | rfl | (simp [errW_none, errW_some] <;> rfl) | (simp [*, errW_none, errW_some] <;> rfl), by repeat (first | (with_reducible first | exact HB.out | apply below_alloc | apply pw_below_drewN | apply below_drew1) | exact HB.out)⟩

end Go.Proofs.Ytcbfnmabckjijaa.POrderBehind
