-- written by a program of this session (pp.py), out of the kit's print and this session's contracts
import Derived.Test.YtiknkkkfkifahaaPPaperActsx0
namespace Go.Proofs.Ytiknkkkfkifahaa.PPaperActs
open Go.RowKit Go.Proofs.YtiknkkkfkifahaaW.PrintWords Go.Proofs.YtiknkkkfkifahaaW.PrintLast Go.Proofs.YtiknkkkfkifahaaW.PrintMore
attribute [local go_sem] max2_int min2_int max_two min_two max_three min_three max_four min_four   -- for this text's walks alone
set_option linter.unusedVariables false
set_option linter.unusedSimpArgs false

/-! ### sha_Sum: function 49 -/
def sha_Sum.f (a0 : ByteArray) : Option ByteArray := if a0.size ≤ 140737488351232 then some (Sm.sumB a0) else none
theorem sha_Sum.calls (a0 : ByteArray) (r : ByteArray) (w : World) (h : sha_Sum.f a0 = some r) :
    Calls Try.prog 49 #[.string a0] w fun e w' => e = .returned (.string r) ∧ Below w.heap.size w w' := by
  unfold sha_Sum.f at h
  by_cases hs : a0.size ≤ 140737488351232
  · rw [if_pos hs] at h
    obtain rfl := Option.some.inj h
    exact Sa.sum_c a0 hs w
  · rw [if_neg hs] at h; cases h

/-! ### digits_Text: function 51 -/
def digits_Text.f (a0 : ByteArray) : Option ByteArray := if a0.size ≤ 140737488351232 then some (Sa.textB a0) else none
theorem digits_Text.calls (a0 : ByteArray) (r : ByteArray) (w : World) (h : digits_Text.f a0 = some r) :
    Calls Try.prog 51 #[.string a0] w fun e w' => e = .returned (.string r) ∧ Below w.heap.size w w' := by
  unfold digits_Text.f at h
  by_cases hs : a0.size ≤ 140737488351232
  · rw [if_pos hs] at h
    obtain rfl := Option.some.inj h
    exact Sa.text_c a0 hs w
  · rw [if_neg hs] at h; cases h

/-! ### paper_Frame: function 32 -/
def paper_Frame.f (a0 : ByteArray) : Option (ByteArray × Int) := if (a0.size : Int) > 65536 then (some ((⟨#[]⟩ : ByteArray), 4)) else ((digits_Text.f a0).bind fun t101 => ((sha_Sum.f a0).bind fun t102 => (if 0 ≤ 4 then (if 4 ≤ (t102.size : Int) then (if t101.size + (t102.extract 0 4).size ≤ 9223372036854775807 then (some (t101 ++ (t102.extract 0 4), 0)) else (none)) else (none)) else (none))))
set_option maxHeartbeats 8000000 in
set_option maxRecDepth 100000 in
theorem paper_Frame.calls (a0 : ByteArray) (r1 : ByteArray) (r2 : Int) (w : World) (h : paper_Frame.f a0 = some (r1, r2)) :
    Calls Try.prog 32 #[.string a0] w fun e w' => e = .returned (.tuple #[.string r1, .int .i64 r2]) ∧ Below w.heap.size w w' := by
  have HB := Aside0.mk (Below.refl w.heap.size w)
  have H : (if (a0.size : Int) > 65536 then (some ((⟨#[]⟩ : ByteArray), 4)) else ((digits_Text.f a0).bind fun t101 => ((sha_Sum.f a0).bind fun t102 => (if 0 ≤ 4 then (if 4 ≤ (t102.size : Int) then (if t101.size + (t102.extract 0 4).size ≤ 9223372036854775807 then (some (t101 ++ (t102.extract 0 4), 0)) else (none)) else (none)) else (none))))) = some (r1, r2) := h
  clear h
  by_cases c2 : (a0.size : Int) > 65536
  · rw [if_pos c2] at H
    have c2b0 : decide (65536 < (a0.size : Int)) = true := decide_eq_true c2
    have c2b1 : decide (65536 < a0.size) = true := decide_eq_true (by omega)
    clear c2
    simp only [Option.some.injEq, Prod.mk.injEq] at H
    obtain ⟨rfl, rfl⟩ := H
    go_enter Try.func32, Try.ntmps32
    go_wp2
    go_ret2
    exact ⟨by first | rfl | (simp [errW_none, errW_some] <;> rfl) | (simp [*, errW_none, errW_some] <;> rfl), by repeat (first | (with_reducible first | exact HB.out | apply below_alloc | apply pw_below_drewN | apply below_drew1) | exact HB.out)⟩
  · rw [if_neg c2] at H
    have c2b0 : decide (65536 < (a0.size : Int)) = false := decide_eq_false c2
    have c2b1 : decide (65536 < a0.size) = false := decide_eq_false (by omega)
    clear c2
    replace H := Option.bind_eq_some_iff.mp H
    obtain ⟨t101, A30, H⟩ := H
    replace H : ((sha_Sum.f a0).bind fun t102 => (if 0 ≤ 4 then (if 4 ≤ (t102.size : Int) then (if t101.size + (t102.extract 0 4).size ≤ 9223372036854775807 then (some (t101 ++ (t102.extract 0 4), 0)) else (none)) else (none)) else (none))) = some (r1, r2) := H
    have A3 := Aside0.mk A30
    clear A30
    replace H := Option.bind_eq_some_iff.mp H
    obtain ⟨t102, A40, H⟩ := H
    replace H : (if 0 ≤ 4 then (if 4 ≤ (t102.size : Int) then (if t101.size + (t102.extract 0 4).size ≤ 9223372036854775807 then (some (t101 ++ (t102.extract 0 4), 0)) else (none)) else (none)) else (none)) = some (r1, r2) := H
    have A4 := Aside0.mk A40
    clear A40
    by_cases c5 : 0 ≤ 4
    · rw [if_pos c5] at H
      have c5b0 := eq_true c5
      have c5b1 : decide (0 ≤ 4) = true := decide_eq_true c5
      clear c5
      by_cases c6 : 4 ≤ (t102.size : Int)
      · rw [if_pos c6] at H
        have c6b0 := eq_true c6
        have c6b1 : decide (4 ≤ (t102.size : Int)) = true := decide_eq_true c6
        clear c6
        by_cases c7 : t101.size + (t102.extract 0 4).size ≤ 9223372036854775807
        · rw [if_pos c7] at H
          have c7b0 := eq_true c7
          have c7b1 : decide (t101.size + (t102.extract 0 4).size ≤ 9223372036854775807) = true := decide_eq_true c7
          have c7u := c7
          (try simp only [ByteArray.size_extract, Nat.sub_zero] at c7u)
          have c7v := eq_false (Nat.not_lt.2 c7u)
          have c7w := decide_eq_true c7u
          replace c7u := eq_true c7u
          try have c7b2 : (9223372036854775807 < t101.size + (t102.extract 0 4).size) = False := eq_false (Nat.not_lt.2 c7)
          simp only [Option.some.injEq, Prod.mk.injEq] at H
          obtain ⟨rfl, rfl⟩ := H
          go_enter Try.func32, Try.ntmps32
          go_wp2_with (first | ((with_reducible refine gate_callee (f := 51) rfl ?_); refine goesL_ (some 8) rfl rfl Try.func51 (by kernel_rfl) rfl #[.string a0] rfl (by (try simp only [List.map_toArray, List.map_cons, List.map_nil]); first | done | rfl | (simp only [List.length_drop, List.length_take]; rfl)) ?_; (with_reducible refine (digits_Text.calls a0 t101 _ A3.out).mono ?_); rintro e w8 ⟨rfl, hb⟩; refine ⟨_, rfl, ?_⟩; have n0_ := Aside0.mk (below_step (by repeat (first | (with_reducible first | exact HB.out | apply below_alloc | apply pw_below_drewN | apply below_drew1) | exact HB.out)) hb); clear HB; have HB := n0_; clear n0_; (try clear hb); (try clear hb2); (try clear hk); (try clear hi)) | ((with_reducible refine gate_callee (f := 49) rfl ?_); refine goesL_ (some 10) rfl rfl Try.func49 (by kernel_rfl) rfl #[.string a0] rfl (by (try simp only [List.map_toArray, List.map_cons, List.map_nil]); first | done | rfl | (simp only [List.length_drop, List.length_take]; rfl)) ?_; (with_reducible refine (sha_Sum.calls a0 t102 _ A4.out).mono ?_); rintro e w9 ⟨rfl, hb⟩; refine ⟨_, rfl, ?_⟩; have n0_ := Aside0.mk (below_step (by repeat (first | (with_reducible first | exact HB.out | apply below_alloc | apply pw_below_drewN | apply below_drew1) | exact HB.out)) hb); clear HB; have HB := n0_; clear n0_; (try clear hb); (try clear hb2); (try clear hk); (try clear hi)))
          go_ret2
          exact ⟨by first | rfl | (simp [errW_none, errW_some] <;> rfl) | (simp [*, errW_none, errW_some] <;> rfl), by repeat (first | (with_reducible first | exact HB.out | apply below_alloc | apply pw_below_drewN | apply below_drew1) | exact HB.out)⟩
        · rw [if_neg c7] at H
          exact absurd H (by simp)
      · rw [if_neg c6] at H
        exact absurd H (by simp)
    · rw [if_neg c5] at H
      exact absurd H (by simp)

/-! ### digits_TakeNum: function 79 -/
mutual
def digits_TakeNum.j0 : Nat → ByteArray → Int → Option (Int × ByteArray × Int)
  | 0, _, _ => none
  | k + 1, x0, x5 => digits_TakeNum.l0 k x0 x5 0 1
def digits_TakeNum.l0 : Nat → ByteArray → Int → Int → Int → Option (Int × ByteArray × Int)
  | 0, _, _, _, _ => none
  | k + 1, x0, x5, x6, x7 => if x7 ≤ x5 then (if 0 ≤ x7 then (if x7 < (x0.size : Int) then (digits_TakeNum.l0 k x0 x5 (Go.bits .or .u64 (IntKind.u64.wrap (x6 * 256)) (IntKind.u64.wrap (bt x0 x7))) (wrap64 (x7 + 1))) else (none)) else (none)) else (if 0 ≤ (wrap64 (x5 + 1)) then (if (wrap64 (x5 + 1)) ≤ (x0.size : Int) then (some (x6, x0.extract ((wrap64 (x5 + 1)) : Int).toNat x0.size, 0)) else (none)) else (none))
end
def digits_TakeNum.f (k : Nat) (a0 : ByteArray) : Option (Int × ByteArray × Int) := if a0.toList = ([] : List UInt8) then (some (0, (⟨#[]⟩ : ByteArray), 2)) else (if 0 < (a0.size : Int) then (if (wrap64 (bt a0 0)) > 8 then (some (0, (⟨#[]⟩ : ByteArray), 3)) else (if (a0.size : Int) ≤ (wrap64 (bt a0 0)) then (some (0, (⟨#[]⟩ : ByteArray), 2)) else (if (wrap64 (bt a0 0)) > 0 then (if 1 < (a0.size : Int) then (if (bt a0 1) = 0 then (some (0, (⟨#[]⟩ : ByteArray), 3)) else (digits_TakeNum.j0 k a0 (wrap64 (bt a0 0)))) else (none)) else (digits_TakeNum.j0 k a0 (wrap64 (bt a0 0)))))) else (none))
theorem digits_TakeNum.mono_l : ∀ k, (∀ y0 y1, LeO (digits_TakeNum.j0 k y0 y1) (digits_TakeNum.j0 (k + 1) y0 y1)) ∧ (∀ y0 y1 y2 y3, LeO (digits_TakeNum.l0 k y0 y1 y2 y3) (digits_TakeNum.l0 (k + 1) y0 y1 y2 y3))
  | 0 => ⟨fun _ _ r h => by simp [digits_TakeNum.j0] at h, fun _ _ _ _ r h => by simp [digits_TakeNum.l0] at h⟩
  | k + 1 => by
    obtain ⟨ih0, ih1⟩ := digits_TakeNum.mono_l k
    refine ⟨?_, ?_⟩
    · intro y0 y1
      unfold digits_TakeNum.j0
      repeat' first
      | (with_reducible exact ih0 _ _)
      | (with_reducible exact ih1 _ _ _ _)
      | (with_reducible exact LeO.refl _)
      | (with_reducible exact LeO.none _)
      | (with_reducible refine LeO.ite ?_ ?_)
      | (with_reducible refine LeO.bind ?_ (fun _ => ?_))
      | exact ih0 _ _
      | exact ih1 _ _ _ _
      | exact LeO.none _
      | refine LeO.ite ?_ ?_
      | refine LeO.bind ?_ (fun _ => ?_)
    · intro y0 y1 y2 y3
      unfold digits_TakeNum.l0
      repeat' first
      | (with_reducible exact ih0 _ _)
      | (with_reducible exact ih1 _ _ _ _)
      | (with_reducible exact LeO.refl _)
      | (with_reducible exact LeO.none _)
      | (with_reducible refine LeO.ite ?_ ?_)
      | (with_reducible refine LeO.bind ?_ (fun _ => ?_))
      | exact ih0 _ _
      | exact ih1 _ _ _ _
      | exact LeO.none _
      | refine LeO.ite ?_ ?_
      | refine LeO.bind ?_ (fun _ => ?_)
theorem digits_TakeNum.mono : ∀ a0 k, LeO (digits_TakeNum.f k a0) (digits_TakeNum.f (k + 1) a0) := by
  intro a0 k
  obtain ⟨ih0, ih1⟩ := digits_TakeNum.mono_l k
  unfold digits_TakeNum.f
  repeat' first
      | (with_reducible exact ih0 _ _)
      | (with_reducible exact ih1 _ _ _ _)
      | (with_reducible exact LeO.refl _)
      | (with_reducible exact LeO.none _)
      | (with_reducible refine LeO.ite ?_ ?_)
      | (with_reducible refine LeO.bind ?_ (fun _ => ?_))
      | exact ih0 _ _
      | exact ih1 _ _ _ _
      | exact LeO.none _
      | refine LeO.ite ?_ ?_
      | refine LeO.bind ?_ (fun _ => ?_)
set_option maxHeartbeats 8000000 in
set_option maxRecDepth 100000 in
theorem digits_TakeNum.calls (k : Nat) (a0 : ByteArray) (r1 : Int) (r2 : ByteArray) (r3 : Int) (w : World) (h : digits_TakeNum.f k a0 = some (r1, r2, r3)) :
    Calls Try.prog 79 #[.string a0] w fun e w' => e = .returned (.tuple #[.int .u64 r1, .string r2, .int .i64 r3]) ∧ Drawn0 w w' := by
  have H : (if a0.toList = ([] : List UInt8) then (some (0, (⟨#[]⟩ : ByteArray), 2)) else (if 0 < (a0.size : Int) then (if (wrap64 (bt a0 0)) > 8 then (some (0, (⟨#[]⟩ : ByteArray), 3)) else (if (a0.size : Int) ≤ (wrap64 (bt a0 0)) then (some (0, (⟨#[]⟩ : ByteArray), 2)) else (if (wrap64 (bt a0 0)) > 0 then (if 1 < (a0.size : Int) then (if (bt a0 1) = 0 then (some (0, (⟨#[]⟩ : ByteArray), 3)) else (digits_TakeNum.j0 k a0 (wrap64 (bt a0 0)))) else (none)) else (digits_TakeNum.j0 k a0 (wrap64 (bt a0 0)))))) else (none))) = some (r1, r2, r3) := h
  clear h
  by_cases c2 : a0.toList = ([] : List UInt8)
  · rw [if_pos c2] at H
    have c2b0 : (a0.toList == ([] : List UInt8)) = true := beq_iff_eq.mpr c2
    have c2b1 : (a0.toList != ([] : List UInt8)) = false := bne_eq_false_iff_eq.mpr c2
    clear c2
    simp only [Option.some.injEq, Prod.mk.injEq] at H
    obtain ⟨rfl, rfl, rfl⟩ := H
    go_enter Try.func79, Try.ntmps79
    go_wp2
    repeat (go_quiet (fail); try go_wp2)
    go_ret3
    exact ⟨by first | rfl | (simp; done) | (simp [*]; done), by repeat (first | exact Drawn0.refl _ | apply Drawn0.step)⟩
  · rw [if_neg c2] at H
    have c2b0 : (a0.toList == ([] : List UInt8)) = false := beq_eq_false_iff_ne.mpr c2
    have c2b1 : (a0.toList != ([] : List UInt8)) = true := bne_iff_ne.mpr c2
    by_cases c3 : 0 < (a0.size : Int)
    · rw [if_pos c3] at H
      have c3b0 : decide (0 < (a0.size : Int)) = true := decide_eq_true c3
      have c3b1 : decide (0 < a0.size) = true := decide_eq_true (by omega)
      clear c3
      have HC5 := Aside0.mk H
      clear H
      have p4 : 0 ≤ (0 : Int) := (by omega)
      have q4 : 0 < a0.size := (by have : (0 : Int) < (a0.size : Int) := of_decide_eq_true (by first | (with_reducible assumption) | assumption); omega)
      have hx4 : ∀ h : 0 < a0.size, ((a0[0]'h).toNat : Int) = bt a0 0 := bt_at a0 0
      clear p4
      have qi4 : (0 < (a0.size : Int)) = True := eq_true (of_decide_eq_true (by first | (with_reducible assumption) | assumption))
      replace q4 := eq_true q4
      go_enter Try.func79, Try.ntmps79
      go_upto_block 0 with (fail)
      repeat (go_quiet (fail); go_upto_block 0 with (fail))
      go_cut [] (fun wc => ∃ (kq : Nat), Aside0 (digits_TakeNum.j0 kq a0 (wrap64 (bt a0 0)) = some (r1, r2, r3)) ∧ Aside0 (kq ≤ k) ∧ Drawn0 w wc)
      case first =>
        have H := HC5.out
        clear HC5
        by_cases c6 : (wrap64 (bt a0 0)) > 8
        · rw [if_pos c6] at H
          have c6b0 : decide (8 < (wrap64 (bt a0 0))) = true := decide_eq_true c6
          clear c6
          (first | rw [c6b0] | (simp only [i64_w, i32_w]; rw [c6b0]) | skip)
          simp only [Option.some.injEq, Prod.mk.injEq] at H
          obtain ⟨rfl, rfl, rfl⟩ := H
          go_wp2
          repeat (go_quiet (fail); try go_wp2)
          go_ret3
          exact ⟨by first | rfl | (simp; done) | (simp [*]; done), by repeat (first | exact Drawn0.refl _ | apply Drawn0.step)⟩
        · rw [if_neg c6] at H
          have c6b0 : decide (8 < (wrap64 (bt a0 0))) = false := decide_eq_false c6
          clear c6
          (first | rw [c6b0] | (simp only [i64_w, i32_w]; rw [c6b0]) | skip)
          by_cases c7 : (a0.size : Int) ≤ (wrap64 (bt a0 0))
          · rw [if_pos c7] at H
            have c7b0 : decide ((a0.size : Int) ≤ (wrap64 (bt a0 0))) = true := decide_eq_true c7
            clear c7
            simp only [Option.some.injEq, Prod.mk.injEq] at H
            obtain ⟨rfl, rfl, rfl⟩ := H
            go_wp2
            repeat (go_quiet (fail); try go_wp2)
            go_ret3
            exact ⟨by first | rfl | (simp; done) | (simp [*]; done), by repeat (first | exact Drawn0.refl _ | apply Drawn0.step)⟩
          · rw [if_neg c7] at H
            have c7b0 : decide ((a0.size : Int) ≤ (wrap64 (bt a0 0))) = false := decide_eq_false c7
            clear c7
            by_cases c8 : (wrap64 (bt a0 0)) > 0
            · rw [if_pos c8] at H
              have c8b0 : decide (0 < (wrap64 (bt a0 0))) = true := decide_eq_true c8
              clear c8
              by_cases c9 : 1 < (a0.size : Int)
              · rw [if_pos c9] at H
                have c9b0 : decide (1 < (a0.size : Int)) = true := decide_eq_true c9
                have c9b1 : decide (1 < a0.size) = true := decide_eq_true (by omega)
                clear c9
                by_cases c11 : (bt a0 1) = 0
                · rw [if_pos c11] at H
                  have c11b0 : ((bt a0 1) == 0) = true := beq_iff_eq.mpr c11
                  have c11b1 : ((bt a0 1) != 0) = false := bne_eq_false_iff_eq.mpr c11
                  clear c11
                  simp only [Option.some.injEq, Prod.mk.injEq] at H
                  obtain ⟨rfl, rfl, rfl⟩ := H
                  have p10 : 0 ≤ (1 : Int) := (by omega)
                  have q10 : 1 < a0.size := (by have : (1 : Int) < (a0.size : Int) := of_decide_eq_true (by first | (with_reducible assumption) | assumption); omega)
                  have hx10 : ∀ h : 1 < a0.size, ((a0[1]'h).toNat : Int) = bt a0 1 := bt_at a0 1
                  clear p10
                  have qi10 : (1 < (a0.size : Int)) = True := eq_true (of_decide_eq_true (by first | (with_reducible assumption) | assumption))
                  replace q10 := eq_true q10
                  go_wp2
                  repeat (go_quiet (fail); try go_wp2)
                  go_ret3
                  exact ⟨by first | rfl | (simp; done) | (simp [*]; done), by repeat (first | exact Drawn0.refl _ | apply Drawn0.step)⟩
                · rw [if_neg c11] at H
                  have c11b0 : ((bt a0 1) == 0) = false := beq_eq_false_iff_ne.mpr c11
                  have c11b1 : ((bt a0 1) != 0) = true := bne_iff_ne.mpr c11
                  have H' := Aside0.mk H
                  clear H
                  have p10 : 0 ≤ (1 : Int) := (by omega)
                  have q10 : 1 < a0.size := (by have : (1 : Int) < (a0.size : Int) := of_decide_eq_true (by first | (with_reducible assumption) | assumption); omega)
                  have hx10 : ∀ h : 1 < a0.size, ((a0[1]'h).toNat : Int) = bt a0 1 := bt_at a0 1
                  clear p10
                  have qi10 : (1 < (a0.size : Int)) = True := eq_true (of_decide_eq_true (by first | (with_reducible assumption) | assumption))
                  replace q10 := eq_true q10
                  go_wp2
                  repeat (go_quiet (fail); try go_wp2)
                  go_meet
                  case rel => exact ⟨_, H', ⟨by first | omega | exact Nat.le_refl _⟩, by repeat (first | exact Drawn0.refl _ | apply Drawn0.step)⟩
              · rw [if_neg c9] at H
                exact absurd H (by simp)
            · rw [if_neg c8] at H
              have c8b0 : decide (0 < (wrap64 (bt a0 0))) = false := decide_eq_false c8
              clear c8
              have H' := Aside0.mk H
              clear H
              go_wp2
              repeat (go_quiet (fail); try go_wp2)
              go_meet
              case rel => exact ⟨_, H', ⟨by first | omega | exact Nat.le_refl _⟩, by repeat (first | exact Drawn0.refl _ | apply Drawn0.step)⟩
      case rest =>
        clear HC5
        try clear c1
        try clear p1
        try clear q1
        try clear hx1
        try clear qi1
        try clear c2
        try clear c2b0
        try clear c2b1
        try clear p2
        try clear c3
        try clear c3b0
        try clear c3b1
        try clear p4
        try clear q4
        try clear hx4
        try clear qi4
        try clear c6
        try clear c6b0
        try clear p6
        try clear c7
        try clear c7b0
        try clear c8
        try clear c8b0
        try clear c9
        try clear c9b0
        try clear c9b1
        try clear p10
        try clear q10
        try clear hx10
        try clear qi10
        try clear c11
        try clear c11b0
        try clear c11b1
        try clear p10
        try clear p4
        try clear q10
        try clear q4
        obtain ⟨kq, HA, HJ4, ⟨mc4, rfl⟩⟩ := hcut
        cases kq with
        | zero => exact absurd HA.out (by simp [digits_TakeNum.j0])
        | succ kj4 =>
          have H := HA.out
          clear HA
          simp only [digits_TakeNum.j0] at H
          have H' := Aside0.mk H
          clear H
          go_wp2
          repeat (go_quiet (fail); try go_wp2)
          go_loopg [6, 7] kj4 (fun kq v6 v7 w' => ∃ (x6_2 : Int) (x7_2 : Int), v6 = .int .u64 x6_2 ∧ v7 = .int .i64 x7_2 ∧ Aside0 (digits_TakeNum.l0 kq a0 (wrap64 (bt a0 0)) x6_2 x7_2 = some (r1, r2, r3)) ∧ Aside0 (kq ≤ kj4) ∧ Drawn0 w w')
          case atStart => exact ⟨(0), (1), (by first | rfl | (simp; done) | (simp [*]; done)), (by first | rfl | (simp; done) | (simp [*]; done)), H', ⟨Nat.le_refl _⟩, by repeat (first | exact Drawn0.refl _ | apply Drawn0.step)⟩
          case round =>
            clear H'
            try clear c1
            try clear p1
            try clear q1
            try clear hx1
            try clear qi1
            try clear c2
            try clear c2b0
            try clear c2b1
            try clear p2
            try clear c3
            try clear c3b0
            try clear c3b1
            try clear c4
            try clear p4
            try clear q4
            try clear hx4
            try clear qi4
            try clear c6
            try clear c6b0
            try clear p6
            try clear c7
            try clear c7b0
            try clear c8
            try clear c8b0
            try clear c9
            try clear c9b0
            try clear c9b1
            try clear p10
            try clear q10
            try clear hx10
            try clear qi10
            try clear c11
            try clear c11b0
            try clear c11b1
            try clear p1
            try clear p10
            try clear p2
            try clear p4
            try clear p6
            try clear q1
            try clear q10
            try clear q4
            obtain ⟨x6_2, x7_2, rfl, rfl, HA, HK2, ⟨m2, rfl⟩⟩ := hrel
            cases gk with
            | zero => exact absurd HA.out (by simp [digits_TakeNum.l0])
            | succ k2 =>
              have H := HA.out
              clear HA
              simp only [digits_TakeNum.l0] at H
              by_cases c12 : x7_2 ≤ (wrap64 (bt a0 0))
              · rw [if_pos c12] at H
                have c12b0 : decide (x7_2 ≤ (wrap64 (bt a0 0))) = true := decide_eq_true c12
                clear c12
                by_cases c13 : 0 ≤ x7_2
                · rw [if_pos c13] at H
                  have c13b0 : decide (0 ≤ x7_2) = true := decide_eq_true c13
                  clear c13
                  by_cases c14 : x7_2 < (a0.size : Int)
                  · rw [if_pos c14] at H
                    have c14b0 : decide (x7_2 < (a0.size : Int)) = true := decide_eq_true c14
                    clear c14
                    have H' := Aside0.mk H
                    clear H
                    have p15 : 0 ≤ (x7_2 : Int) := of_decide_eq_true (by first | (with_reducible assumption) | assumption)
                    have q15 : x7_2 < (a0.size : Int) := of_decide_eq_true (by first | (with_reducible assumption) | assumption)
                    have hx15 := bt_at a0 x7_2
                    replace p15 := eq_true p15
                    replace q15 := eq_true q15
                    go_wp2
                    repeat (go_quiet (fail); try go_wp2)
                    go_roundg k2
                    case measure => have := HJ4.out; have := HK2.out; omega
                    case rel => exact ⟨(Go.bits .or .u64 (IntKind.u64.wrap (x6_2 * 256)) (IntKind.u64.wrap (bt a0 x7_2))), (wrap64 (x7_2 + 1)), (by first | rfl | (simp; done) | (simp [*]; done)), (by first | rfl | (simp; done) | (simp [*]; done)), H', ⟨by have := HJ4.out; have := HK2.out; omega⟩, by repeat (first | exact Drawn0.refl _ | apply Drawn0.step)⟩
                  · rw [if_neg c14] at H
                    exact absurd H (by simp)
                · rw [if_neg c13] at H
                  exact absurd H (by simp)
              · rw [if_neg c12] at H
                have c12b0 : decide (x7_2 ≤ (wrap64 (bt a0 0))) = false := decide_eq_false c12
                clear c12
                obtain ⟨ji16, hji16⟩ : ∃ j_ : Int, (wrap64 ((wrap64 (bt a0 0)) + 1)) = j_ := ⟨_, rfl⟩
                replace H : (if 0 ≤ (ji16) then (if (ji16) ≤ (a0.size : Int) then (some (x6_2, a0.extract ((ji16) : Int).toNat a0.size, 0)) else (none)) else (none)) = some (r1, r2, r3) := by first | (rw [hji16] at H; exact H) | (simp only [hji16] at H ⊢; exact H)
                have hji16w : (IntKind.i64.wrap ((wrap64 (bt a0 0)) + 1)) = ji16 := (i64_w _).trans hji16
                by_cases c17 : 0 ≤ (ji16)
                · rw [if_pos c17] at H
                  have c17b0 := eq_true c17
                  have c17b1 : decide (0 ≤ (ji16)) = true := decide_eq_true c17
                  clear c17
                  by_cases c18 : (ji16) ≤ (a0.size : Int)
                  · rw [if_pos c18] at H
                    have c18b0 := eq_true c18
                    have c18b1 : decide ((ji16) ≤ (a0.size : Int)) = true := decide_eq_true c18
                    clear c18
                    simp only [Option.some.injEq, Prod.mk.injEq] at H
                    obtain ⟨rfl, rfl, rfl⟩ := H
                    go_wp2
                    repeat (go_quiet (fail); try go_wp2)
                    go_ret3
                    exact ⟨by first | rfl | (simp; done) | (simp only [← hji16] <;> (first | rfl | simp)) | (simp [*]; done), by repeat (first | exact Drawn0.refl _ | apply Drawn0.step)⟩
                  · rw [if_neg c18] at H
                    exact absurd H (by simp)
                · rw [if_neg c17] at H
                  exact absurd H (by simp)
    · rw [if_neg c3] at H
      exact absurd H (by simp)

/-! ### digits_TakeText: function 71 -/
def digits_TakeText.j0 : Nat → Int → ByteArray → Bool → Option (ByteArray × ByteArray × Int)
  | 0, _, _, _ => none
  | k + 1, x7, x8, x20 => if x20 = true then (some ((⟨#[]⟩ : ByteArray), (⟨#[]⟩ : ByteArray), 4)) else (if x7 > (IntKind.u64.wrap ((x8.size : Int))) then (some ((⟨#[]⟩ : ByteArray), (⟨#[]⟩ : ByteArray), 2)) else (if 0 ≤ x7 then (if x7 ≤ (x8.size : Int) then (some (x8.extract 0 (x7 : Int).toNat, x8.extract (x7 : Int).toNat x8.size, 0)) else (none)) else (none)))
def digits_TakeText.f (k : Nat) (a0 : ByteArray) (a1 : Int) : Option (ByteArray × ByteArray × Int) := (digits_TakeNum.f k a0).bind fun bt103 => (if bt103.2.2 = 0 then (if a1 < 0 then (digits_TakeText.j0 k bt103.1 bt103.2.1 true) else (digits_TakeText.j0 k bt103.1 bt103.2.1 (decide (bt103.1 > (IntKind.u64.wrap (a1)))))) else (some ((⟨#[]⟩ : ByteArray), (⟨#[]⟩ : ByteArray), bt103.2.2)))
theorem digits_TakeText.mono_l : ∀ k, (∀ y0 y1 y2, LeO (digits_TakeText.j0 k y0 y1 y2) (digits_TakeText.j0 (k + 1) y0 y1 y2))
  | 0 => fun _ _ _ r h => by simp [digits_TakeText.j0] at h
  | k + 1 => by
    have ih0 := digits_TakeText.mono_l k
    · intro y0 y1 y2
      unfold digits_TakeText.j0
      repeat' first
      | (with_reducible exact ih0 _ _ _)
      | (with_reducible exact digits_TakeNum.mono _ _)
      | (with_reducible exact LeO.refl _)
      | (with_reducible exact LeO.none _)
      | (with_reducible refine LeO.ite ?_ ?_)
      | (with_reducible refine LeO.bind ?_ (fun _ => ?_))
      | exact ih0 _ _ _
      | exact digits_TakeNum.mono _ _
      | exact LeO.none _
      | refine LeO.ite ?_ ?_
      | refine LeO.bind ?_ (fun _ => ?_)
theorem digits_TakeText.mono : ∀ a0 a1 k, LeO (digits_TakeText.f k a0 a1) (digits_TakeText.f (k + 1) a0 a1) := by
  intro a0 a1 k
  have ih0 := digits_TakeText.mono_l k
  unfold digits_TakeText.f
  repeat' first
      | (with_reducible exact ih0 _ _ _)
      | (with_reducible exact digits_TakeNum.mono _ _)
      | (with_reducible exact LeO.refl _)
      | (with_reducible exact LeO.none _)
      | (with_reducible refine LeO.ite ?_ ?_)
      | (with_reducible refine LeO.bind ?_ (fun _ => ?_))
      | exact ih0 _ _ _
      | exact digits_TakeNum.mono _ _
      | exact LeO.none _
      | refine LeO.ite ?_ ?_
      | refine LeO.bind ?_ (fun _ => ?_)
set_option maxHeartbeats 8000000 in
set_option maxRecDepth 100000 in
theorem digits_TakeText.calls (k : Nat) (a0 : ByteArray) (a1 : Int) (r1 : ByteArray) (r2 : ByteArray) (r3 : Int) (w : World) (h : digits_TakeText.f k a0 a1 = some (r1, r2, r3)) :
    Calls Try.prog 71 #[.string a0, .int .i64 a1] w fun e w' => e = .returned (.tuple #[.string r1, .string r2, .int .i64 r3]) ∧ Drawn0 w w' := by
  have H : ((digits_TakeNum.f k a0).bind fun bt103 => (if bt103.2.2 = 0 then (if a1 < 0 then (digits_TakeText.j0 k bt103.1 bt103.2.1 true) else (digits_TakeText.j0 k bt103.1 bt103.2.1 (decide (bt103.1 > (IntKind.u64.wrap (a1)))))) else (some ((⟨#[]⟩ : ByteArray), (⟨#[]⟩ : ByteArray), bt103.2.2)))) = some (r1, r2, r3) := h
  clear h
  replace H := Option.bind_eq_some_iff.mp H
  obtain ⟨⟨t103, t104, t105⟩, A30, H⟩ := H
  replace H : (if t105 = 0 then (if a1 < 0 then (digits_TakeText.j0 k t103 t104 true) else (digits_TakeText.j0 k t103 t104 (decide (t103 > (IntKind.u64.wrap (a1)))))) else (some ((⟨#[]⟩ : ByteArray), (⟨#[]⟩ : ByteArray), t105))) = some (r1, r2, r3) := H
  have A3 := Aside0.mk A30
  clear A30
  by_cases c4 : t105 = 0
  · rw [if_pos c4] at H
    have c4b0 : (t105 == 0) = true := beq_iff_eq.mpr c4
    have c4b1 : (t105 != 0) = false := bne_eq_false_iff_eq.mpr c4
    clear c4
    have HC5 := Aside0.mk H
    clear H
    go_enter Try.func71, Try.ntmps71
    go_upto_region 4 with (first | (go_at_call 79; (with_reducible refine (digits_TakeNum.calls k a0 t103 t104 t105 _ A3.out).mono ?_); rintro e w' ⟨rfl, ⟨nd, rfl⟩⟩; (try first | exact ⟨rfl, _, World.drewN_drewN _ _ _⟩ | exact ⟨rfl, _, Eq.trans (World.drewN_drewN _ _ _) (congrArg (World.drewN _) (Nat.add_assoc _ _ _))⟩)))
    (try simp only [Act.put, List.setIfInBounds_toArray, List.set_cons_zero, List.set_cons_succ])
    repeat (go_quiet (first | (go_at_call 79; (with_reducible refine (digits_TakeNum.calls k a0 t103 t104 t105 _ A3.out).mono ?_); rintro e w' ⟨rfl, ⟨nd, rfl⟩⟩; (try first | exact ⟨rfl, _, World.drewN_drewN _ _ _⟩ | exact ⟨rfl, _, Eq.trans (World.drewN_drewN _ _ _) (congrArg (World.drewN _) (Nat.add_assoc _ _ _))⟩))); go_upto_region 4 with (first | (go_at_call 79; (with_reducible refine (digits_TakeNum.calls k a0 t103 t104 t105 _ A3.out).mono ?_); rintro e w' ⟨rfl, ⟨nd, rfl⟩⟩; (try first | exact ⟨rfl, _, World.drewN_drewN _ _ _⟩ | exact ⟨rfl, _, Eq.trans (World.drewN_drewN _ _ _) (congrArg (World.drewN _) (Nat.add_assoc _ _ _))⟩))))
    (try simp only [Act.put, List.setIfInBounds_toArray, List.set_cons_zero, List.set_cons_succ])
    go_cut [20] (fun v20 wc => ∃ (kq : Nat) (x20_4 : Bool), v20 = .bool x20_4 ∧ Aside0 (digits_TakeText.j0 kq t103 t104 x20_4 = some (r1, r2, r3)) ∧ Aside0 (kq ≤ k) ∧ Drawn0 w wc)
    case first =>
      have H := HC5.out
      clear HC5
      by_cases c6 : a1 < 0
      · rw [if_pos c6] at H
        have c6b0 : decide (a1 < 0) = true := decide_eq_true c6
        clear c6
        (first | rw [c6b0] | (simp only [i64_w, i32_w]; rw [c6b0]) | skip)
        have H' := Aside0.mk H
        clear H
        go_wp2
        repeat (go_quiet (fail); try go_wp2)
        go_meet
        case rel => exact ⟨_, (true), (by first | rfl | (simp; done) | (simp [*]; done)), H', ⟨by first | omega | exact Nat.le_refl _⟩, by repeat (first | exact Drawn0.refl _ | apply Drawn0.step)⟩
      · rw [if_neg c6] at H
        have c6b0 : decide (a1 < 0) = false := decide_eq_false c6
        clear c6
        (first | rw [c6b0] | (simp only [i64_w, i32_w]; rw [c6b0]) | skip)
        have H' := Aside0.mk H
        clear H
        go_wp2
        repeat (go_quiet (fail); try go_wp2)
        go_meet
        case rel => exact ⟨_, (decide (t103 > (IntKind.u64.wrap (a1)))), (by first | rfl | (simp; done) | (simp [*]; done)), H', ⟨by first | omega | exact Nat.le_refl _⟩, by repeat (first | exact Drawn0.refl _ | apply Drawn0.step)⟩
    case rest =>
      clear HC5
      try clear p2
      try clear c4
      try clear c4b0
      try clear c4b1
      try clear c6
      try clear c6b0
      obtain ⟨kq, x20_4, rfl, HA, HJ4, ⟨mc4, rfl⟩⟩ := hcut
      cases kq with
      | zero => exact absurd HA.out (by simp [digits_TakeText.j0])
      | succ kj4 =>
        have H := HA.out
        clear HA
        simp only [digits_TakeText.j0] at H
        by_cases c7 : x20_4 = true
        · subst c7
          have H1 : (some ((⟨#[]⟩ : ByteArray), (⟨#[]⟩ : ByteArray), 4)) = some (r1, r2, r3) := by rw [if_pos rfl] at H; exact H
          clear H
          have H := H1
          clear H1
          simp only [Option.some.injEq, Prod.mk.injEq] at H
          obtain ⟨rfl, rfl, rfl⟩ := H
          go_wp2
          repeat (go_quiet (fail); try go_wp2)
          go_ret3
          exact ⟨by first | rfl | (simp; done) | (simp [*]; done), by repeat (first | exact Drawn0.refl _ | apply Drawn0.step)⟩
        · replace c7 := Bool.eq_false_iff.mpr c7
          subst c7
          have H1 : (if t103 > (IntKind.u64.wrap ((t104.size : Int))) then (some ((⟨#[]⟩ : ByteArray), (⟨#[]⟩ : ByteArray), 2)) else (if 0 ≤ t103 then (if t103 ≤ (t104.size : Int) then (some (t104.extract 0 (t103 : Int).toNat, t104.extract (t103 : Int).toNat t104.size, 0)) else (none)) else (none))) = some (r1, r2, r3) := by rw [if_neg (show ¬ (false = true) by decide)] at H; exact H
          clear H
          have H := H1
          clear H1
          by_cases c8 : t103 > (IntKind.u64.wrap ((t104.size : Int)))
          · rw [if_pos c8] at H
            have c8b0 : decide ((IntKind.u64.wrap ((t104.size : Int))) < t103) = true := decide_eq_true c8
            clear c8
            simp only [Option.some.injEq, Prod.mk.injEq] at H
            obtain ⟨rfl, rfl, rfl⟩ := H
            go_wp2
            repeat (go_quiet (fail); try go_wp2)
            go_ret3
            exact ⟨by first | rfl | (simp; done) | (simp [*]; done), by repeat (first | exact Drawn0.refl _ | apply Drawn0.step)⟩
          · rw [if_neg c8] at H
            have c8b0 : decide ((IntKind.u64.wrap ((t104.size : Int))) < t103) = false := decide_eq_false c8
            clear c8
            by_cases c9 : 0 ≤ t103
            · rw [if_pos c9] at H
              have c9b0 := eq_true c9
              have c9b1 : decide (0 ≤ t103) = true := decide_eq_true c9
              clear c9
              by_cases c10 : t103 ≤ (t104.size : Int)
              · rw [if_pos c10] at H
                have c10b0 := eq_true c10
                have c10b1 : decide (t103 ≤ (t104.size : Int)) = true := decide_eq_true c10
                clear c10
                have c11b0 := eq_true (of_decide_eq_true (by first | (with_reducible assumption) | assumption) : 0 ≤ t103)
                have c12b0 := eq_true (of_decide_eq_true (by first | (with_reducible assumption) | assumption) : t103 ≤ (t104.size : Int))
                simp only [Option.some.injEq, Prod.mk.injEq] at H
                obtain ⟨rfl, rfl, rfl⟩ := H
                go_wp2
                repeat (go_quiet (fail); try go_wp2)
                go_ret3
                exact ⟨by first | rfl | (simp; done) | (simp [*]; done), by repeat (first | exact Drawn0.refl _ | apply Drawn0.step)⟩
              · rw [if_neg c10] at H
                exact absurd H (by simp)
            · rw [if_neg c9] at H
              exact absurd H (by simp)
  · rw [if_neg c4] at H
    have c4b0 : (t105 == 0) = false := beq_eq_false_iff_ne.mpr c4
    have c4b1 : (t105 != 0) = true := bne_iff_ne.mpr c4
    simp only [Option.some.injEq, Prod.mk.injEq] at H
    obtain ⟨rfl, rfl, rfl⟩ := H
    go_enter Try.func71, Try.ntmps71
    go_wp2_with (first | (go_at_call 79; (with_reducible refine (digits_TakeNum.calls k a0 t103 t104 t105 _ A3.out).mono ?_); rintro e w' ⟨rfl, ⟨nd, rfl⟩⟩; (try first | exact ⟨rfl, _, World.drewN_drewN _ _ _⟩ | exact ⟨rfl, _, Eq.trans (World.drewN_drewN _ _ _) (congrArg (World.drewN _) (Nat.add_assoc _ _ _))⟩)))
    (try simp only [Act.put, List.setIfInBounds_toArray, List.set_cons_zero, List.set_cons_succ])
    repeat (go_quiet (first | (go_at_call 79; (with_reducible refine (digits_TakeNum.calls k a0 t103 t104 t105 _ A3.out).mono ?_); rintro e w' ⟨rfl, ⟨nd, rfl⟩⟩; (try first | exact ⟨rfl, _, World.drewN_drewN _ _ _⟩ | exact ⟨rfl, _, Eq.trans (World.drewN_drewN _ _ _) (congrArg (World.drewN _) (Nat.add_assoc _ _ _))⟩))); try go_wp2_with (first | (go_at_call 79; (with_reducible refine (digits_TakeNum.calls k a0 t103 t104 t105 _ A3.out).mono ?_); rintro e w' ⟨rfl, ⟨nd, rfl⟩⟩; (try first | exact ⟨rfl, _, World.drewN_drewN _ _ _⟩ | exact ⟨rfl, _, Eq.trans (World.drewN_drewN _ _ _) (congrArg (World.drewN _) (Nat.add_assoc _ _ _))⟩))))
    go_ret3
    exact ⟨by first | rfl | (simp; done) | (simp [*]; done), by repeat (first | exact Drawn0.refl _ | apply Drawn0.step)⟩

/-! ### selvedgeref02_Sum: function 53 -/
def selvedgeref02_Sum.f (a0 : ByteArray) : Option ByteArray := if a0.size ≤ 140737488351232 then some (Sm.sumB a0) else none
theorem selvedgeref02_Sum.calls (a0 : ByteArray) (r : ByteArray) (w : World) (h : selvedgeref02_Sum.f a0 = some r) :
    Calls Try.prog 53 #[.string a0] w fun e w' => e = .returned (.string r) ∧ Below w.heap.size w w' := by
  unfold selvedgeref02_Sum.f at h
  by_cases hs : a0.size ≤ 140737488351232
  · rw [if_pos hs] at h
    obtain rfl := Option.some.inj h
    exact Sa.rsum_c a0 hs w
  · rw [if_neg hs] at h; cases h

end Go.Proofs.Ytiknkkkfkifahaa.PPaperActs
