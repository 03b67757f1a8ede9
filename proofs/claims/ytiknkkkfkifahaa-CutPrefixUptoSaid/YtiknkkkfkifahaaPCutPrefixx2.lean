-- written by a program of this session (pp.py), out of the kit's print and this session's contracts
import Derived.Test.YtiknkkkfkifahaaPCutPrefixx0
import Derived.Test.YtiknkkkfkifahaaPCutPrefixx1
namespace Go.Proofs.Ytiknkkkfkifahaa.PCutPrefix
open Go.RowKit Go.Proofs.YtiknkkkfkifahaaW.PrintWords Go.Proofs.YtiknkkkfkifahaaW.PrintLast Go.Proofs.YtiknkkkfkifahaaW.PrintMore
attribute [local go_sem] max2_int min2_int max_two min_two max_three min_three max_four min_four   -- for this text's walks alone
set_option linter.unusedVariables false
set_option linter.unusedSimpArgs false

/-! ### selvedgeref15_Blocks: function 22 -/
def selvedgeref15_Blocks.l0 : Nat → List (S25) → List (S25) → Int → Option (Bool)
  | 0, _, _, _ => none
  | k + 1, x0, x1, x5 => if x5 < (x0.length : Int) then (if 0 ≤ x5 then (if x5 < (x1.length : Int) then ((selvedgeref01_Same.f k ((rd_T25 x0 x5).f2) ((rd_T25 x1 x5).f2)).bind fun t161 => (if t161 = true then (if ((rd_T25 x0 x5).f0) = ((rd_T25 x1 x5).f0) then (if ((rd_T25 x0 x5).f1).toList = ((rd_T25 x1 x5).f1).toList then (selvedgeref15_Blocks.l0 k x0 x1 (wrap64 (x5 + 1))) else (some false)) else (some false)) else (some false))) else (none)) else (none)) else (some true)
def selvedgeref15_Blocks.f (k : Nat) (l0 : List (S25)) (l1 : List (S25)) : Option (Bool) := if (l0.length : Int) = (l1.length : Int) then (selvedgeref15_Blocks.l0 k l0 l1 0) else (some false)
theorem selvedgeref15_Blocks.mono_l : ∀ k, (∀ y0 y1 y2, LeO (selvedgeref15_Blocks.l0 k y0 y1 y2) (selvedgeref15_Blocks.l0 (k + 1) y0 y1 y2))
  | 0 => fun _ _ _ r h => by simp [selvedgeref15_Blocks.l0] at h
  | k + 1 => by
    have ih0 := selvedgeref15_Blocks.mono_l k
    · intro y0 y1 y2
      unfold selvedgeref15_Blocks.l0
      repeat' first
      | (with_reducible exact ih0 _ _ _)
      | (with_reducible exact selvedgeref01_Same.mono _ _ _)
      | (with_reducible exact LeO.refl _)
      | (with_reducible exact LeO.none _)
      | (with_reducible refine LeO.ite ?_ ?_)
      | (with_reducible refine LeO.bind ?_ (fun _ => ?_))
      | exact ih0 _ _ _
      | exact selvedgeref01_Same.mono _ _ _
      | exact LeO.none _
      | refine LeO.ite ?_ ?_
      | refine LeO.bind ?_ (fun _ => ?_)
theorem selvedgeref15_Blocks.mono : ∀ a0 a1 k, LeO (selvedgeref15_Blocks.f k a0 a1) (selvedgeref15_Blocks.f (k + 1) a0 a1) := by
  intro a0 a1 k
  have ih0 := selvedgeref15_Blocks.mono_l k
  unfold selvedgeref15_Blocks.f
  repeat' first
      | (with_reducible exact ih0 _ _ _)
      | (with_reducible exact selvedgeref01_Same.mono _ _ _)
      | (with_reducible exact LeO.refl _)
      | (with_reducible exact LeO.none _)
      | (with_reducible refine LeO.ite ?_ ?_)
      | (with_reducible refine LeO.bind ?_ (fun _ => ?_))
      | exact ih0 _ _ _
      | exact selvedgeref01_Same.mono _ _ _
      | exact LeO.none _
      | refine LeO.ite ?_ ?_
      | refine LeO.bind ?_ (fun _ => ?_)
set_option maxHeartbeats 8000000 in
set_option maxRecDepth 100000 in
theorem selvedgeref15_Blocks.calls (k : Nat) (A0 : Option Addr) (c0 : Nat) (l0 : List (S25)) (A1 : Option Addr) (c1 : Nat) (l1 : List (S25)) (r : Bool) (w : World) (hr0 : Kd.C k25 w A0 l0.length l0) (hc0 : l0.length ≤ c0) (hr1 : Kd.C k25 w A1 l1.length l1) (hc1 : l1.length ≤ c1) (h : selvedgeref15_Blocks.f k l0 l1 = some r) :
    Calls Try.prog 22 #[.slice A0 l0.length c0, .slice A1 l1.length c1] w fun e w' => e = .returned (.bool r) ∧ Drawn0 w w' := by
  have HR0 := Aside0.mk hr0
  have HC0 := Aside0.mk hc0
  clear hr0 hc0
  have HR1 := Aside0.mk hr1
  have HC1 := Aside0.mk hc1
  clear hr1 hc1
  have H : (if (l0.length : Int) = (l1.length : Int) then (selvedgeref15_Blocks.l0 k l0 l1 0) else (some false)) = some r := h
  clear h
  by_cases c3 : (l0.length : Int) = (l1.length : Int)
  · rw [if_pos c3] at H
    have c3b0 : ((l0.length : Int) == (l1.length : Int)) = true := beq_iff_eq.mpr c3
    have c3b1 : ((l0.length : Int) != (l1.length : Int)) = false := bne_eq_false_iff_eq.mpr c3
    have c3b2 : (l0.length == l1.length) = true := by first | simpa using c3 | (simp at c3 ⊢; omega)
    clear c3
    have H' := Aside0.mk H
    clear H
    go_enter Try.func22, Try.ntmps22
    go_wp2
    repeat (go_quiet (fail); try go_wp2)
    go_loopg [5] k (fun kq v5 w' => ∃ (x5_1 : Int), v5 = .int .i64 x5_1 ∧ Aside0 (selvedgeref15_Blocks.l0 kq l0 l1 x5_1 = some r) ∧ Aside0 (kq ≤ k) ∧ Drawn0 w w')
    case atStart => exact ⟨(0), (by first | rfl | (simp; done) | (simp [*]; done)), H', ⟨Nat.le_refl _⟩, by repeat (first | exact Drawn0.refl _ | apply Drawn0.step)⟩
    case round =>
      clear H'
      try clear c1
      try clear c2
      try clear p2
      try clear c3
      try clear c3b0
      try clear c3b1
      try clear c3b2
      obtain ⟨x5_1, rfl, HA, HK1, ⟨m1, rfl⟩⟩ := hrel
      cases gk with
      | zero => exact absurd HA.out (by simp [selvedgeref15_Blocks.l0])
      | succ k1 =>
        have H := HA.out
        clear HA
        simp only [selvedgeref15_Blocks.l0] at H
        by_cases c4 : x5_1 < (l0.length : Int)
        · rw [if_pos c4] at H
          have c4b0 : decide (x5_1 < (l0.length : Int)) = true := decide_eq_true c4
          clear c4
          by_cases c5 : 0 ≤ x5_1
          · rw [if_pos c5] at H
            have c5b0 : decide (0 ≤ x5_1) = true := decide_eq_true c5
            clear c5
            by_cases c6 : x5_1 < (l1.length : Int)
            · rw [if_pos c6] at H
              have c6b0 : decide (x5_1 < (l1.length : Int)) = true := decide_eq_true c6
              clear c6
              replace H := Option.bind_eq_some_iff.mp H
              obtain ⟨t161, A70, H⟩ := H
              replace H : (if t161 = true then (if ((rd_T25 l0 x5_1).f0) = ((rd_T25 l1 x5_1).f0) then (if ((rd_T25 l0 x5_1).f1).toList = ((rd_T25 l1 x5_1).f1).toList then (selvedgeref15_Blocks.l0 k1 l0 l1 (wrap64 (x5_1 + 1))) else (some false)) else (some false)) else (some false)) = some r := H
              have A7 := Aside0.mk A70
              clear A70
              by_cases c8 : t161 = true
              · subst c8
                have H1 : (if ((rd_T25 l0 x5_1).f0) = ((rd_T25 l1 x5_1).f0) then (if ((rd_T25 l0 x5_1).f1).toList = ((rd_T25 l1 x5_1).f1).toList then (selvedgeref15_Blocks.l0 k1 l0 l1 (wrap64 (x5_1 + 1))) else (some false)) else (some false)) = some r := by rw [if_pos rfl] at H; exact H
                clear H
                have H := H1
                clear H1
                by_cases c9 : ((rd_T25 l0 x5_1).f0) = ((rd_T25 l1 x5_1).f0)
                · rw [if_pos c9] at H
                  have c9b0 : (((rd_T25 l0 x5_1).f0) == ((rd_T25 l1 x5_1).f0)) = true := beq_iff_eq.mpr c9
                  have c9b1 : (((rd_T25 l0 x5_1).f0) != ((rd_T25 l1 x5_1).f0)) = false := bne_eq_false_iff_eq.mpr c9
                  clear c9
                  by_cases c10 : ((rd_T25 l0 x5_1).f1).toList = ((rd_T25 l1 x5_1).f1).toList
                  · rw [if_pos c10] at H
                    have c10b0 : (((rd_T25 l0 x5_1).f1).toList == ((rd_T25 l1 x5_1).f1).toList) = true := beq_iff_eq.mpr c10
                    have c10b1 : (((rd_T25 l0 x5_1).f1).toList != ((rd_T25 l1 x5_1).f1).toList) = false := bne_eq_false_iff_eq.mpr c10
                    clear c10
                    have H' := Aside0.mk H
                    clear H
                    have p159 : 0 ≤ (x5_1 : Int) := of_decide_eq_true (by first | (with_reducible assumption) | assumption)
                    have q159 : x5_1 < (l0.length : Int) := of_decide_eq_true (by first | (with_reducible assumption) | assumption)
                    obtain ⟨ad159, A159_2, c159_2, e159, hx159_0, hx159_1, hx159_2, hl159_2, hi159_2⟩ := at_T25 HR0.out x5_1 p159 q159
                    cases e159
                    have HR159_2 := Aside0.mk hi159_2
                    have HC159_2 := Aside0.mk hl159_2
                    clear hi159_2 hl159_2
                    replace p159 := eq_true p159
                    replace q159 := eq_true q159
                    have p160 : 0 ≤ (x5_1 : Int) := of_decide_eq_true (by first | (with_reducible assumption) | assumption)
                    have q160 : x5_1 < (l1.length : Int) := of_decide_eq_true (by first | (with_reducible assumption) | assumption)
                    obtain ⟨ad160, A160_2, c160_2, e160, hx160_0, hx160_1, hx160_2, hl160_2, hi160_2⟩ := at_T25 HR1.out x5_1 p160 q160
                    cases e160
                    have HR160_2 := Aside0.mk hi160_2
                    have HC160_2 := Aside0.mk hl160_2
                    clear hi160_2 hl160_2
                    replace p160 := eq_true p160
                    replace q160 := eq_true q160
                    go_wp2_with (first | (go_at_call 28; (with_reducible refine (selvedgeref01_Same.calls k1 _ _ ((rd_T25 l0 x5_1).f2) _ _ ((rd_T25 l1 x5_1).f2) true _ ?side1 ?side2 ?side3 ?side4 A7.out).mono ?_); (case side1 => repeat (first | exact HR159_2.out | (with_reducible refine Kd.C_alloc ?_ _) | (with_reducible refine Kd.C_drewN ?_ _) | (with_reducible refine Kd.C_drew ?_))); (case side2 => exact HC159_2.out); (case side3 => repeat (first | exact HR160_2.out | (with_reducible refine Kd.C_alloc ?_ _) | (with_reducible refine Kd.C_drewN ?_ _) | (with_reducible refine Kd.C_drew ?_))); (case side4 => exact HC160_2.out); rintro e w' ⟨rfl, ⟨nd, rfl⟩⟩; (try first | exact ⟨rfl, _, World.drewN_drewN _ _ _⟩ | exact ⟨rfl, _, Eq.trans (World.drewN_drewN _ _ _) (congrArg (World.drewN _) (Nat.add_assoc _ _ _))⟩); have p162 : 0 ≤ (x5_1 : Int) := of_decide_eq_true (by first | (with_reducible assumption) | assumption); have q162 : x5_1 < (l0.length : Int) := of_decide_eq_true (by first | (with_reducible assumption) | assumption); obtain ⟨ad162, A162_2, c162_2, e162, hx162_0, hx162_1, hx162_2, hl162_2, hi162_2⟩ := at_T25 HR0.out x5_1 p162 q162; obtain rfl : ad159 = ad162 := (by injection e162); have HR162_2 := Aside0.mk hi162_2; have HC162_2 := Aside0.mk hl162_2; clear hi162_2 hl162_2; replace p162 := eq_true p162; replace q162 := eq_true q162; have ea_ := Option.some.inj (hx159_2.symm.trans hx162_2); injection ea_ with ea_ en_ ec_; subst ea_; subst ec_; clear en_; have p163 : 0 ≤ (x5_1 : Int) := of_decide_eq_true (by first | (with_reducible assumption) | assumption); have q163 : x5_1 < (l1.length : Int) := of_decide_eq_true (by first | (with_reducible assumption) | assumption); obtain ⟨ad163, A163_2, c163_2, e163, hx163_0, hx163_1, hx163_2, hl163_2, hi163_2⟩ := at_T25 HR1.out x5_1 p163 q163; obtain rfl : ad160 = ad163 := (by injection e163); have HR163_2 := Aside0.mk hi163_2; have HC163_2 := Aside0.mk hl163_2; clear hi163_2 hl163_2; replace p163 := eq_true p163; replace q163 := eq_true q163; have ea_ := Option.some.inj (hx160_2.symm.trans hx163_2); injection ea_ with ea_ en_ ec_; subst ea_; subst ec_; clear en_; have p164 : 0 ≤ (x5_1 : Int) := of_decide_eq_true (by first | (with_reducible assumption) | assumption); have q164 : x5_1 < (l0.length : Int) := of_decide_eq_true (by first | (with_reducible assumption) | assumption); obtain ⟨ad164, A164_2, c164_2, e164, hx164_0, hx164_1, hx164_2, hl164_2, hi164_2⟩ := at_T25 HR0.out x5_1 p164 q164; obtain rfl : ad159 = ad164 := (by injection e164); have HR164_2 := Aside0.mk hi164_2; have HC164_2 := Aside0.mk hl164_2; clear hi164_2 hl164_2; replace p164 := eq_true p164; replace q164 := eq_true q164; have ea_ := Option.some.inj (hx159_2.symm.trans hx164_2); injection ea_ with ea_ en_ ec_; subst ea_; subst ec_; clear en_; have p165 : 0 ≤ (x5_1 : Int) := of_decide_eq_true (by first | (with_reducible assumption) | assumption); have q165 : x5_1 < (l1.length : Int) := of_decide_eq_true (by first | (with_reducible assumption) | assumption); obtain ⟨ad165, A165_2, c165_2, e165, hx165_0, hx165_1, hx165_2, hl165_2, hi165_2⟩ := at_T25 HR1.out x5_1 p165 q165; obtain rfl : ad160 = ad165 := (by injection e165); have HR165_2 := Aside0.mk hi165_2; have HC165_2 := Aside0.mk hl165_2; clear hi165_2 hl165_2; replace p165 := eq_true p165; replace q165 := eq_true q165; have ea_ := Option.some.inj (hx160_2.symm.trans hx165_2); injection ea_ with ea_ en_ ec_; subst ea_; subst ec_; clear en_))
                    (try simp only [Act.put, List.setIfInBounds_toArray, List.set_cons_zero, List.set_cons_succ])
                    repeat (go_quiet (first | (go_at_call 28; (with_reducible refine (selvedgeref01_Same.calls k1 _ _ ((rd_T25 l0 x5_1).f2) _ _ ((rd_T25 l1 x5_1).f2) true _ ?side1 ?side2 ?side3 ?side4 A7.out).mono ?_); (case side1 => repeat (first | exact HR159_2.out | (with_reducible refine Kd.C_alloc ?_ _) | (with_reducible refine Kd.C_drewN ?_ _) | (with_reducible refine Kd.C_drew ?_))); (case side2 => exact HC159_2.out); (case side3 => repeat (first | exact HR160_2.out | (with_reducible refine Kd.C_alloc ?_ _) | (with_reducible refine Kd.C_drewN ?_ _) | (with_reducible refine Kd.C_drew ?_))); (case side4 => exact HC160_2.out); rintro e w' ⟨rfl, ⟨nd, rfl⟩⟩; (try first | exact ⟨rfl, _, World.drewN_drewN _ _ _⟩ | exact ⟨rfl, _, Eq.trans (World.drewN_drewN _ _ _) (congrArg (World.drewN _) (Nat.add_assoc _ _ _))⟩); have p162 : 0 ≤ (x5_1 : Int) := of_decide_eq_true (by first | (with_reducible assumption) | assumption); have q162 : x5_1 < (l0.length : Int) := of_decide_eq_true (by first | (with_reducible assumption) | assumption); obtain ⟨ad162, A162_2, c162_2, e162, hx162_0, hx162_1, hx162_2, hl162_2, hi162_2⟩ := at_T25 HR0.out x5_1 p162 q162; obtain rfl : ad159 = ad162 := (by injection e162); have HR162_2 := Aside0.mk hi162_2; have HC162_2 := Aside0.mk hl162_2; clear hi162_2 hl162_2; replace p162 := eq_true p162; replace q162 := eq_true q162; have ea_ := Option.some.inj (hx159_2.symm.trans hx162_2); injection ea_ with ea_ en_ ec_; subst ea_; subst ec_; clear en_; have p163 : 0 ≤ (x5_1 : Int) := of_decide_eq_true (by first | (with_reducible assumption) | assumption); have q163 : x5_1 < (l1.length : Int) := of_decide_eq_true (by first | (with_reducible assumption) | assumption); obtain ⟨ad163, A163_2, c163_2, e163, hx163_0, hx163_1, hx163_2, hl163_2, hi163_2⟩ := at_T25 HR1.out x5_1 p163 q163; obtain rfl : ad160 = ad163 := (by injection e163); have HR163_2 := Aside0.mk hi163_2; have HC163_2 := Aside0.mk hl163_2; clear hi163_2 hl163_2; replace p163 := eq_true p163; replace q163 := eq_true q163; have ea_ := Option.some.inj (hx160_2.symm.trans hx163_2); injection ea_ with ea_ en_ ec_; subst ea_; subst ec_; clear en_; have p164 : 0 ≤ (x5_1 : Int) := of_decide_eq_true (by first | (with_reducible assumption) | assumption); have q164 : x5_1 < (l0.length : Int) := of_decide_eq_true (by first | (with_reducible assumption) | assumption); obtain ⟨ad164, A164_2, c164_2, e164, hx164_0, hx164_1, hx164_2, hl164_2, hi164_2⟩ := at_T25 HR0.out x5_1 p164 q164; obtain rfl : ad159 = ad164 := (by injection e164); have HR164_2 := Aside0.mk hi164_2; have HC164_2 := Aside0.mk hl164_2; clear hi164_2 hl164_2; replace p164 := eq_true p164; replace q164 := eq_true q164; have ea_ := Option.some.inj (hx159_2.symm.trans hx164_2); injection ea_ with ea_ en_ ec_; subst ea_; subst ec_; clear en_; have p165 : 0 ≤ (x5_1 : Int) := of_decide_eq_true (by first | (with_reducible assumption) | assumption); have q165 : x5_1 < (l1.length : Int) := of_decide_eq_true (by first | (with_reducible assumption) | assumption); obtain ⟨ad165, A165_2, c165_2, e165, hx165_0, hx165_1, hx165_2, hl165_2, hi165_2⟩ := at_T25 HR1.out x5_1 p165 q165; obtain rfl : ad160 = ad165 := (by injection e165); have HR165_2 := Aside0.mk hi165_2; have HC165_2 := Aside0.mk hl165_2; clear hi165_2 hl165_2; replace p165 := eq_true p165; replace q165 := eq_true q165; have ea_ := Option.some.inj (hx160_2.symm.trans hx165_2); injection ea_ with ea_ en_ ec_; subst ea_; subst ec_; clear en_)); try go_wp2_with (first | (go_at_call 28; (with_reducible refine (selvedgeref01_Same.calls k1 _ _ ((rd_T25 l0 x5_1).f2) _ _ ((rd_T25 l1 x5_1).f2) true _ ?side1 ?side2 ?side3 ?side4 A7.out).mono ?_); (case side1 => repeat (first | exact HR159_2.out | (with_reducible refine Kd.C_alloc ?_ _) | (with_reducible refine Kd.C_drewN ?_ _) | (with_reducible refine Kd.C_drew ?_))); (case side2 => exact HC159_2.out); (case side3 => repeat (first | exact HR160_2.out | (with_reducible refine Kd.C_alloc ?_ _) | (with_reducible refine Kd.C_drewN ?_ _) | (with_reducible refine Kd.C_drew ?_))); (case side4 => exact HC160_2.out); rintro e w' ⟨rfl, ⟨nd, rfl⟩⟩; (try first | exact ⟨rfl, _, World.drewN_drewN _ _ _⟩ | exact ⟨rfl, _, Eq.trans (World.drewN_drewN _ _ _) (congrArg (World.drewN _) (Nat.add_assoc _ _ _))⟩); have p162 : 0 ≤ (x5_1 : Int) := of_decide_eq_true (by first | (with_reducible assumption) | assumption); have q162 : x5_1 < (l0.length : Int) := of_decide_eq_true (by first | (with_reducible assumption) | assumption); obtain ⟨ad162, A162_2, c162_2, e162, hx162_0, hx162_1, hx162_2, hl162_2, hi162_2⟩ := at_T25 HR0.out x5_1 p162 q162; obtain rfl : ad159 = ad162 := (by injection e162); have HR162_2 := Aside0.mk hi162_2; have HC162_2 := Aside0.mk hl162_2; clear hi162_2 hl162_2; replace p162 := eq_true p162; replace q162 := eq_true q162; have ea_ := Option.some.inj (hx159_2.symm.trans hx162_2); injection ea_ with ea_ en_ ec_; subst ea_; subst ec_; clear en_; have p163 : 0 ≤ (x5_1 : Int) := of_decide_eq_true (by first | (with_reducible assumption) | assumption); have q163 : x5_1 < (l1.length : Int) := of_decide_eq_true (by first | (with_reducible assumption) | assumption); obtain ⟨ad163, A163_2, c163_2, e163, hx163_0, hx163_1, hx163_2, hl163_2, hi163_2⟩ := at_T25 HR1.out x5_1 p163 q163; obtain rfl : ad160 = ad163 := (by injection e163); have HR163_2 := Aside0.mk hi163_2; have HC163_2 := Aside0.mk hl163_2; clear hi163_2 hl163_2; replace p163 := eq_true p163; replace q163 := eq_true q163; have ea_ := Option.some.inj (hx160_2.symm.trans hx163_2); injection ea_ with ea_ en_ ec_; subst ea_; subst ec_; clear en_; have p164 : 0 ≤ (x5_1 : Int) := of_decide_eq_true (by first | (with_reducible assumption) | assumption); have q164 : x5_1 < (l0.length : Int) := of_decide_eq_true (by first | (with_reducible assumption) | assumption); obtain ⟨ad164, A164_2, c164_2, e164, hx164_0, hx164_1, hx164_2, hl164_2, hi164_2⟩ := at_T25 HR0.out x5_1 p164 q164; obtain rfl : ad159 = ad164 := (by injection e164); have HR164_2 := Aside0.mk hi164_2; have HC164_2 := Aside0.mk hl164_2; clear hi164_2 hl164_2; replace p164 := eq_true p164; replace q164 := eq_true q164; have ea_ := Option.some.inj (hx159_2.symm.trans hx164_2); injection ea_ with ea_ en_ ec_; subst ea_; subst ec_; clear en_; have p165 : 0 ≤ (x5_1 : Int) := of_decide_eq_true (by first | (with_reducible assumption) | assumption); have q165 : x5_1 < (l1.length : Int) := of_decide_eq_true (by first | (with_reducible assumption) | assumption); obtain ⟨ad165, A165_2, c165_2, e165, hx165_0, hx165_1, hx165_2, hl165_2, hi165_2⟩ := at_T25 HR1.out x5_1 p165 q165; obtain rfl : ad160 = ad165 := (by injection e165); have HR165_2 := Aside0.mk hi165_2; have HC165_2 := Aside0.mk hl165_2; clear hi165_2 hl165_2; replace p165 := eq_true p165; replace q165 := eq_true q165; have ea_ := Option.some.inj (hx160_2.symm.trans hx165_2); injection ea_ with ea_ en_ ec_; subst ea_; subst ec_; clear en_)))
                    go_roundg k1
                    case measure => have := HK1.out; omega
                    case rel => exact ⟨(wrap64 (x5_1 + 1)), (by first | rfl | (simp; done) | (simp [*]; done)), H', ⟨by have := HK1.out; omega⟩, by repeat (first | exact Drawn0.refl _ | apply Drawn0.step)⟩
                  · rw [if_neg c10] at H
                    have c10b0 : (((rd_T25 l0 x5_1).f1).toList == ((rd_T25 l1 x5_1).f1).toList) = false := beq_eq_false_iff_ne.mpr c10
                    have c10b1 : (((rd_T25 l0 x5_1).f1).toList != ((rd_T25 l1 x5_1).f1).toList) = true := bne_iff_ne.mpr c10
                    obtain rfl := Option.some.inj H
                    have p159 : 0 ≤ (x5_1 : Int) := of_decide_eq_true (by first | (with_reducible assumption) | assumption)
                    have q159 : x5_1 < (l0.length : Int) := of_decide_eq_true (by first | (with_reducible assumption) | assumption)
                    obtain ⟨ad159, A159_2, c159_2, e159, hx159_0, hx159_1, hx159_2, hl159_2, hi159_2⟩ := at_T25 HR0.out x5_1 p159 q159
                    cases e159
                    have HR159_2 := Aside0.mk hi159_2
                    have HC159_2 := Aside0.mk hl159_2
                    clear hi159_2 hl159_2
                    replace p159 := eq_true p159
                    replace q159 := eq_true q159
                    have p160 : 0 ≤ (x5_1 : Int) := of_decide_eq_true (by first | (with_reducible assumption) | assumption)
                    have q160 : x5_1 < (l1.length : Int) := of_decide_eq_true (by first | (with_reducible assumption) | assumption)
                    obtain ⟨ad160, A160_2, c160_2, e160, hx160_0, hx160_1, hx160_2, hl160_2, hi160_2⟩ := at_T25 HR1.out x5_1 p160 q160
                    cases e160
                    have HR160_2 := Aside0.mk hi160_2
                    have HC160_2 := Aside0.mk hl160_2
                    clear hi160_2 hl160_2
                    replace p160 := eq_true p160
                    replace q160 := eq_true q160
                    go_wp2_with (first | (go_at_call 28; (with_reducible refine (selvedgeref01_Same.calls k1 _ _ ((rd_T25 l0 x5_1).f2) _ _ ((rd_T25 l1 x5_1).f2) true _ ?side1 ?side2 ?side3 ?side4 A7.out).mono ?_); (case side1 => repeat (first | exact HR159_2.out | (with_reducible refine Kd.C_alloc ?_ _) | (with_reducible refine Kd.C_drewN ?_ _) | (with_reducible refine Kd.C_drew ?_))); (case side2 => exact HC159_2.out); (case side3 => repeat (first | exact HR160_2.out | (with_reducible refine Kd.C_alloc ?_ _) | (with_reducible refine Kd.C_drewN ?_ _) | (with_reducible refine Kd.C_drew ?_))); (case side4 => exact HC160_2.out); rintro e w' ⟨rfl, ⟨nd, rfl⟩⟩; (try first | exact ⟨rfl, _, World.drewN_drewN _ _ _⟩ | exact ⟨rfl, _, Eq.trans (World.drewN_drewN _ _ _) (congrArg (World.drewN _) (Nat.add_assoc _ _ _))⟩); have p162 : 0 ≤ (x5_1 : Int) := of_decide_eq_true (by first | (with_reducible assumption) | assumption); have q162 : x5_1 < (l0.length : Int) := of_decide_eq_true (by first | (with_reducible assumption) | assumption); obtain ⟨ad162, A162_2, c162_2, e162, hx162_0, hx162_1, hx162_2, hl162_2, hi162_2⟩ := at_T25 HR0.out x5_1 p162 q162; obtain rfl : ad159 = ad162 := (by injection e162); have HR162_2 := Aside0.mk hi162_2; have HC162_2 := Aside0.mk hl162_2; clear hi162_2 hl162_2; replace p162 := eq_true p162; replace q162 := eq_true q162; have ea_ := Option.some.inj (hx159_2.symm.trans hx162_2); injection ea_ with ea_ en_ ec_; subst ea_; subst ec_; clear en_; have p163 : 0 ≤ (x5_1 : Int) := of_decide_eq_true (by first | (with_reducible assumption) | assumption); have q163 : x5_1 < (l1.length : Int) := of_decide_eq_true (by first | (with_reducible assumption) | assumption); obtain ⟨ad163, A163_2, c163_2, e163, hx163_0, hx163_1, hx163_2, hl163_2, hi163_2⟩ := at_T25 HR1.out x5_1 p163 q163; obtain rfl : ad160 = ad163 := (by injection e163); have HR163_2 := Aside0.mk hi163_2; have HC163_2 := Aside0.mk hl163_2; clear hi163_2 hl163_2; replace p163 := eq_true p163; replace q163 := eq_true q163; have ea_ := Option.some.inj (hx160_2.symm.trans hx163_2); injection ea_ with ea_ en_ ec_; subst ea_; subst ec_; clear en_; have p164 : 0 ≤ (x5_1 : Int) := of_decide_eq_true (by first | (with_reducible assumption) | assumption); have q164 : x5_1 < (l0.length : Int) := of_decide_eq_true (by first | (with_reducible assumption) | assumption); obtain ⟨ad164, A164_2, c164_2, e164, hx164_0, hx164_1, hx164_2, hl164_2, hi164_2⟩ := at_T25 HR0.out x5_1 p164 q164; obtain rfl : ad159 = ad164 := (by injection e164); have HR164_2 := Aside0.mk hi164_2; have HC164_2 := Aside0.mk hl164_2; clear hi164_2 hl164_2; replace p164 := eq_true p164; replace q164 := eq_true q164; have ea_ := Option.some.inj (hx159_2.symm.trans hx164_2); injection ea_ with ea_ en_ ec_; subst ea_; subst ec_; clear en_; have p165 : 0 ≤ (x5_1 : Int) := of_decide_eq_true (by first | (with_reducible assumption) | assumption); have q165 : x5_1 < (l1.length : Int) := of_decide_eq_true (by first | (with_reducible assumption) | assumption); obtain ⟨ad165, A165_2, c165_2, e165, hx165_0, hx165_1, hx165_2, hl165_2, hi165_2⟩ := at_T25 HR1.out x5_1 p165 q165; obtain rfl : ad160 = ad165 := (by injection e165); have HR165_2 := Aside0.mk hi165_2; have HC165_2 := Aside0.mk hl165_2; clear hi165_2 hl165_2; replace p165 := eq_true p165; replace q165 := eq_true q165; have ea_ := Option.some.inj (hx160_2.symm.trans hx165_2); injection ea_ with ea_ en_ ec_; subst ea_; subst ec_; clear en_))
                    (try simp only [Act.put, List.setIfInBounds_toArray, List.set_cons_zero, List.set_cons_succ])
                    repeat (go_quiet (first | (go_at_call 28; (with_reducible refine (selvedgeref01_Same.calls k1 _ _ ((rd_T25 l0 x5_1).f2) _ _ ((rd_T25 l1 x5_1).f2) true _ ?side1 ?side2 ?side3 ?side4 A7.out).mono ?_); (case side1 => repeat (first | exact HR159_2.out | (with_reducible refine Kd.C_alloc ?_ _) | (with_reducible refine Kd.C_drewN ?_ _) | (with_reducible refine Kd.C_drew ?_))); (case side2 => exact HC159_2.out); (case side3 => repeat (first | exact HR160_2.out | (with_reducible refine Kd.C_alloc ?_ _) | (with_reducible refine Kd.C_drewN ?_ _) | (with_reducible refine Kd.C_drew ?_))); (case side4 => exact HC160_2.out); rintro e w' ⟨rfl, ⟨nd, rfl⟩⟩; (try first | exact ⟨rfl, _, World.drewN_drewN _ _ _⟩ | exact ⟨rfl, _, Eq.trans (World.drewN_drewN _ _ _) (congrArg (World.drewN _) (Nat.add_assoc _ _ _))⟩); have p162 : 0 ≤ (x5_1 : Int) := of_decide_eq_true (by first | (with_reducible assumption) | assumption); have q162 : x5_1 < (l0.length : Int) := of_decide_eq_true (by first | (with_reducible assumption) | assumption); obtain ⟨ad162, A162_2, c162_2, e162, hx162_0, hx162_1, hx162_2, hl162_2, hi162_2⟩ := at_T25 HR0.out x5_1 p162 q162; obtain rfl : ad159 = ad162 := (by injection e162); have HR162_2 := Aside0.mk hi162_2; have HC162_2 := Aside0.mk hl162_2; clear hi162_2 hl162_2; replace p162 := eq_true p162; replace q162 := eq_true q162; have ea_ := Option.some.inj (hx159_2.symm.trans hx162_2); injection ea_ with ea_ en_ ec_; subst ea_; subst ec_; clear en_; have p163 : 0 ≤ (x5_1 : Int) := of_decide_eq_true (by first | (with_reducible assumption) | assumption); have q163 : x5_1 < (l1.length : Int) := of_decide_eq_true (by first | (with_reducible assumption) | assumption); obtain ⟨ad163, A163_2, c163_2, e163, hx163_0, hx163_1, hx163_2, hl163_2, hi163_2⟩ := at_T25 HR1.out x5_1 p163 q163; obtain rfl : ad160 = ad163 := (by injection e163); have HR163_2 := Aside0.mk hi163_2; have HC163_2 := Aside0.mk hl163_2; clear hi163_2 hl163_2; replace p163 := eq_true p163; replace q163 := eq_true q163; have ea_ := Option.some.inj (hx160_2.symm.trans hx163_2); injection ea_ with ea_ en_ ec_; subst ea_; subst ec_; clear en_; have p164 : 0 ≤ (x5_1 : Int) := of_decide_eq_true (by first | (with_reducible assumption) | assumption); have q164 : x5_1 < (l0.length : Int) := of_decide_eq_true (by first | (with_reducible assumption) | assumption); obtain ⟨ad164, A164_2, c164_2, e164, hx164_0, hx164_1, hx164_2, hl164_2, hi164_2⟩ := at_T25 HR0.out x5_1 p164 q164; obtain rfl : ad159 = ad164 := (by injection e164); have HR164_2 := Aside0.mk hi164_2; have HC164_2 := Aside0.mk hl164_2; clear hi164_2 hl164_2; replace p164 := eq_true p164; replace q164 := eq_true q164; have ea_ := Option.some.inj (hx159_2.symm.trans hx164_2); injection ea_ with ea_ en_ ec_; subst ea_; subst ec_; clear en_; have p165 : 0 ≤ (x5_1 : Int) := of_decide_eq_true (by first | (with_reducible assumption) | assumption); have q165 : x5_1 < (l1.length : Int) := of_decide_eq_true (by first | (with_reducible assumption) | assumption); obtain ⟨ad165, A165_2, c165_2, e165, hx165_0, hx165_1, hx165_2, hl165_2, hi165_2⟩ := at_T25 HR1.out x5_1 p165 q165; obtain rfl : ad160 = ad165 := (by injection e165); have HR165_2 := Aside0.mk hi165_2; have HC165_2 := Aside0.mk hl165_2; clear hi165_2 hl165_2; replace p165 := eq_true p165; replace q165 := eq_true q165; have ea_ := Option.some.inj (hx160_2.symm.trans hx165_2); injection ea_ with ea_ en_ ec_; subst ea_; subst ec_; clear en_)); try go_wp2_with (first | (go_at_call 28; (with_reducible refine (selvedgeref01_Same.calls k1 _ _ ((rd_T25 l0 x5_1).f2) _ _ ((rd_T25 l1 x5_1).f2) true _ ?side1 ?side2 ?side3 ?side4 A7.out).mono ?_); (case side1 => repeat (first | exact HR159_2.out | (with_reducible refine Kd.C_alloc ?_ _) | (with_reducible refine Kd.C_drewN ?_ _) | (with_reducible refine Kd.C_drew ?_))); (case side2 => exact HC159_2.out); (case side3 => repeat (first | exact HR160_2.out | (with_reducible refine Kd.C_alloc ?_ _) | (with_reducible refine Kd.C_drewN ?_ _) | (with_reducible refine Kd.C_drew ?_))); (case side4 => exact HC160_2.out); rintro e w' ⟨rfl, ⟨nd, rfl⟩⟩; (try first | exact ⟨rfl, _, World.drewN_drewN _ _ _⟩ | exact ⟨rfl, _, Eq.trans (World.drewN_drewN _ _ _) (congrArg (World.drewN _) (Nat.add_assoc _ _ _))⟩); have p162 : 0 ≤ (x5_1 : Int) := of_decide_eq_true (by first | (with_reducible assumption) | assumption); have q162 : x5_1 < (l0.length : Int) := of_decide_eq_true (by first | (with_reducible assumption) | assumption); obtain ⟨ad162, A162_2, c162_2, e162, hx162_0, hx162_1, hx162_2, hl162_2, hi162_2⟩ := at_T25 HR0.out x5_1 p162 q162; obtain rfl : ad159 = ad162 := (by injection e162); have HR162_2 := Aside0.mk hi162_2; have HC162_2 := Aside0.mk hl162_2; clear hi162_2 hl162_2; replace p162 := eq_true p162; replace q162 := eq_true q162; have ea_ := Option.some.inj (hx159_2.symm.trans hx162_2); injection ea_ with ea_ en_ ec_; subst ea_; subst ec_; clear en_; have p163 : 0 ≤ (x5_1 : Int) := of_decide_eq_true (by first | (with_reducible assumption) | assumption); have q163 : x5_1 < (l1.length : Int) := of_decide_eq_true (by first | (with_reducible assumption) | assumption); obtain ⟨ad163, A163_2, c163_2, e163, hx163_0, hx163_1, hx163_2, hl163_2, hi163_2⟩ := at_T25 HR1.out x5_1 p163 q163; obtain rfl : ad160 = ad163 := (by injection e163); have HR163_2 := Aside0.mk hi163_2; have HC163_2 := Aside0.mk hl163_2; clear hi163_2 hl163_2; replace p163 := eq_true p163; replace q163 := eq_true q163; have ea_ := Option.some.inj (hx160_2.symm.trans hx163_2); injection ea_ with ea_ en_ ec_; subst ea_; subst ec_; clear en_; have p164 : 0 ≤ (x5_1 : Int) := of_decide_eq_true (by first | (with_reducible assumption) | assumption); have q164 : x5_1 < (l0.length : Int) := of_decide_eq_true (by first | (with_reducible assumption) | assumption); obtain ⟨ad164, A164_2, c164_2, e164, hx164_0, hx164_1, hx164_2, hl164_2, hi164_2⟩ := at_T25 HR0.out x5_1 p164 q164; obtain rfl : ad159 = ad164 := (by injection e164); have HR164_2 := Aside0.mk hi164_2; have HC164_2 := Aside0.mk hl164_2; clear hi164_2 hl164_2; replace p164 := eq_true p164; replace q164 := eq_true q164; have ea_ := Option.some.inj (hx159_2.symm.trans hx164_2); injection ea_ with ea_ en_ ec_; subst ea_; subst ec_; clear en_; have p165 : 0 ≤ (x5_1 : Int) := of_decide_eq_true (by first | (with_reducible assumption) | assumption); have q165 : x5_1 < (l1.length : Int) := of_decide_eq_true (by first | (with_reducible assumption) | assumption); obtain ⟨ad165, A165_2, c165_2, e165, hx165_0, hx165_1, hx165_2, hl165_2, hi165_2⟩ := at_T25 HR1.out x5_1 p165 q165; obtain rfl : ad160 = ad165 := (by injection e165); have HR165_2 := Aside0.mk hi165_2; have HC165_2 := Aside0.mk hl165_2; clear hi165_2 hl165_2; replace p165 := eq_true p165; replace q165 := eq_true q165; have ea_ := Option.some.inj (hx160_2.symm.trans hx165_2); injection ea_ with ea_ en_ ec_; subst ea_; subst ec_; clear en_)))
                    go_ret
                    exact ⟨by first | rfl | (simp; done) | (simp [*]; done), by repeat (first | exact Drawn0.refl _ | apply Drawn0.step)⟩
                · rw [if_neg c9] at H
                  have c9b0 : (((rd_T25 l0 x5_1).f0) == ((rd_T25 l1 x5_1).f0)) = false := beq_eq_false_iff_ne.mpr c9
                  have c9b1 : (((rd_T25 l0 x5_1).f0) != ((rd_T25 l1 x5_1).f0)) = true := bne_iff_ne.mpr c9
                  obtain rfl := Option.some.inj H
                  have p159 : 0 ≤ (x5_1 : Int) := of_decide_eq_true (by first | (with_reducible assumption) | assumption)
                  have q159 : x5_1 < (l0.length : Int) := of_decide_eq_true (by first | (with_reducible assumption) | assumption)
                  obtain ⟨ad159, A159_2, c159_2, e159, hx159_0, hx159_1, hx159_2, hl159_2, hi159_2⟩ := at_T25 HR0.out x5_1 p159 q159
                  cases e159
                  have HR159_2 := Aside0.mk hi159_2
                  have HC159_2 := Aside0.mk hl159_2
                  clear hi159_2 hl159_2
                  replace p159 := eq_true p159
                  replace q159 := eq_true q159
                  have p160 : 0 ≤ (x5_1 : Int) := of_decide_eq_true (by first | (with_reducible assumption) | assumption)
                  have q160 : x5_1 < (l1.length : Int) := of_decide_eq_true (by first | (with_reducible assumption) | assumption)
                  obtain ⟨ad160, A160_2, c160_2, e160, hx160_0, hx160_1, hx160_2, hl160_2, hi160_2⟩ := at_T25 HR1.out x5_1 p160 q160
                  cases e160
                  have HR160_2 := Aside0.mk hi160_2
                  have HC160_2 := Aside0.mk hl160_2
                  clear hi160_2 hl160_2
                  replace p160 := eq_true p160
                  replace q160 := eq_true q160
                  go_wp2_with (first | (go_at_call 28; (with_reducible refine (selvedgeref01_Same.calls k1 _ _ ((rd_T25 l0 x5_1).f2) _ _ ((rd_T25 l1 x5_1).f2) true _ ?side1 ?side2 ?side3 ?side4 A7.out).mono ?_); (case side1 => repeat (first | exact HR159_2.out | (with_reducible refine Kd.C_alloc ?_ _) | (with_reducible refine Kd.C_drewN ?_ _) | (with_reducible refine Kd.C_drew ?_))); (case side2 => exact HC159_2.out); (case side3 => repeat (first | exact HR160_2.out | (with_reducible refine Kd.C_alloc ?_ _) | (with_reducible refine Kd.C_drewN ?_ _) | (with_reducible refine Kd.C_drew ?_))); (case side4 => exact HC160_2.out); rintro e w' ⟨rfl, ⟨nd, rfl⟩⟩; (try first | exact ⟨rfl, _, World.drewN_drewN _ _ _⟩ | exact ⟨rfl, _, Eq.trans (World.drewN_drewN _ _ _) (congrArg (World.drewN _) (Nat.add_assoc _ _ _))⟩); have p162 : 0 ≤ (x5_1 : Int) := of_decide_eq_true (by first | (with_reducible assumption) | assumption); have q162 : x5_1 < (l0.length : Int) := of_decide_eq_true (by first | (with_reducible assumption) | assumption); obtain ⟨ad162, A162_2, c162_2, e162, hx162_0, hx162_1, hx162_2, hl162_2, hi162_2⟩ := at_T25 HR0.out x5_1 p162 q162; obtain rfl : ad159 = ad162 := (by injection e162); have HR162_2 := Aside0.mk hi162_2; have HC162_2 := Aside0.mk hl162_2; clear hi162_2 hl162_2; replace p162 := eq_true p162; replace q162 := eq_true q162; have ea_ := Option.some.inj (hx159_2.symm.trans hx162_2); injection ea_ with ea_ en_ ec_; subst ea_; subst ec_; clear en_; have p163 : 0 ≤ (x5_1 : Int) := of_decide_eq_true (by first | (with_reducible assumption) | assumption); have q163 : x5_1 < (l1.length : Int) := of_decide_eq_true (by first | (with_reducible assumption) | assumption); obtain ⟨ad163, A163_2, c163_2, e163, hx163_0, hx163_1, hx163_2, hl163_2, hi163_2⟩ := at_T25 HR1.out x5_1 p163 q163; obtain rfl : ad160 = ad163 := (by injection e163); have HR163_2 := Aside0.mk hi163_2; have HC163_2 := Aside0.mk hl163_2; clear hi163_2 hl163_2; replace p163 := eq_true p163; replace q163 := eq_true q163; have ea_ := Option.some.inj (hx160_2.symm.trans hx163_2); injection ea_ with ea_ en_ ec_; subst ea_; subst ec_; clear en_))
                  (try simp only [Act.put, List.setIfInBounds_toArray, List.set_cons_zero, List.set_cons_succ])
                  repeat (go_quiet (first | (go_at_call 28; (with_reducible refine (selvedgeref01_Same.calls k1 _ _ ((rd_T25 l0 x5_1).f2) _ _ ((rd_T25 l1 x5_1).f2) true _ ?side1 ?side2 ?side3 ?side4 A7.out).mono ?_); (case side1 => repeat (first | exact HR159_2.out | (with_reducible refine Kd.C_alloc ?_ _) | (with_reducible refine Kd.C_drewN ?_ _) | (with_reducible refine Kd.C_drew ?_))); (case side2 => exact HC159_2.out); (case side3 => repeat (first | exact HR160_2.out | (with_reducible refine Kd.C_alloc ?_ _) | (with_reducible refine Kd.C_drewN ?_ _) | (with_reducible refine Kd.C_drew ?_))); (case side4 => exact HC160_2.out); rintro e w' ⟨rfl, ⟨nd, rfl⟩⟩; (try first | exact ⟨rfl, _, World.drewN_drewN _ _ _⟩ | exact ⟨rfl, _, Eq.trans (World.drewN_drewN _ _ _) (congrArg (World.drewN _) (Nat.add_assoc _ _ _))⟩); have p162 : 0 ≤ (x5_1 : Int) := of_decide_eq_true (by first | (with_reducible assumption) | assumption); have q162 : x5_1 < (l0.length : Int) := of_decide_eq_true (by first | (with_reducible assumption) | assumption); obtain ⟨ad162, A162_2, c162_2, e162, hx162_0, hx162_1, hx162_2, hl162_2, hi162_2⟩ := at_T25 HR0.out x5_1 p162 q162; obtain rfl : ad159 = ad162 := (by injection e162); have HR162_2 := Aside0.mk hi162_2; have HC162_2 := Aside0.mk hl162_2; clear hi162_2 hl162_2; replace p162 := eq_true p162; replace q162 := eq_true q162; have ea_ := Option.some.inj (hx159_2.symm.trans hx162_2); injection ea_ with ea_ en_ ec_; subst ea_; subst ec_; clear en_; have p163 : 0 ≤ (x5_1 : Int) := of_decide_eq_true (by first | (with_reducible assumption) | assumption); have q163 : x5_1 < (l1.length : Int) := of_decide_eq_true (by first | (with_reducible assumption) | assumption); obtain ⟨ad163, A163_2, c163_2, e163, hx163_0, hx163_1, hx163_2, hl163_2, hi163_2⟩ := at_T25 HR1.out x5_1 p163 q163; obtain rfl : ad160 = ad163 := (by injection e163); have HR163_2 := Aside0.mk hi163_2; have HC163_2 := Aside0.mk hl163_2; clear hi163_2 hl163_2; replace p163 := eq_true p163; replace q163 := eq_true q163; have ea_ := Option.some.inj (hx160_2.symm.trans hx163_2); injection ea_ with ea_ en_ ec_; subst ea_; subst ec_; clear en_)); try go_wp2_with (first | (go_at_call 28; (with_reducible refine (selvedgeref01_Same.calls k1 _ _ ((rd_T25 l0 x5_1).f2) _ _ ((rd_T25 l1 x5_1).f2) true _ ?side1 ?side2 ?side3 ?side4 A7.out).mono ?_); (case side1 => repeat (first | exact HR159_2.out | (with_reducible refine Kd.C_alloc ?_ _) | (with_reducible refine Kd.C_drewN ?_ _) | (with_reducible refine Kd.C_drew ?_))); (case side2 => exact HC159_2.out); (case side3 => repeat (first | exact HR160_2.out | (with_reducible refine Kd.C_alloc ?_ _) | (with_reducible refine Kd.C_drewN ?_ _) | (with_reducible refine Kd.C_drew ?_))); (case side4 => exact HC160_2.out); rintro e w' ⟨rfl, ⟨nd, rfl⟩⟩; (try first | exact ⟨rfl, _, World.drewN_drewN _ _ _⟩ | exact ⟨rfl, _, Eq.trans (World.drewN_drewN _ _ _) (congrArg (World.drewN _) (Nat.add_assoc _ _ _))⟩); have p162 : 0 ≤ (x5_1 : Int) := of_decide_eq_true (by first | (with_reducible assumption) | assumption); have q162 : x5_1 < (l0.length : Int) := of_decide_eq_true (by first | (with_reducible assumption) | assumption); obtain ⟨ad162, A162_2, c162_2, e162, hx162_0, hx162_1, hx162_2, hl162_2, hi162_2⟩ := at_T25 HR0.out x5_1 p162 q162; obtain rfl : ad159 = ad162 := (by injection e162); have HR162_2 := Aside0.mk hi162_2; have HC162_2 := Aside0.mk hl162_2; clear hi162_2 hl162_2; replace p162 := eq_true p162; replace q162 := eq_true q162; have ea_ := Option.some.inj (hx159_2.symm.trans hx162_2); injection ea_ with ea_ en_ ec_; subst ea_; subst ec_; clear en_; have p163 : 0 ≤ (x5_1 : Int) := of_decide_eq_true (by first | (with_reducible assumption) | assumption); have q163 : x5_1 < (l1.length : Int) := of_decide_eq_true (by first | (with_reducible assumption) | assumption); obtain ⟨ad163, A163_2, c163_2, e163, hx163_0, hx163_1, hx163_2, hl163_2, hi163_2⟩ := at_T25 HR1.out x5_1 p163 q163; obtain rfl : ad160 = ad163 := (by injection e163); have HR163_2 := Aside0.mk hi163_2; have HC163_2 := Aside0.mk hl163_2; clear hi163_2 hl163_2; replace p163 := eq_true p163; replace q163 := eq_true q163; have ea_ := Option.some.inj (hx160_2.symm.trans hx163_2); injection ea_ with ea_ en_ ec_; subst ea_; subst ec_; clear en_)))
                  go_ret
                  exact ⟨by first | rfl | (simp; done) | (simp [*]; done), by repeat (first | exact Drawn0.refl _ | apply Drawn0.step)⟩
              · replace c8 := Bool.eq_false_iff.mpr c8
                subst c8
                have H1 : (some false) = some r := by rw [if_neg (show ¬ (false = true) by decide)] at H; exact H
                clear H
                have H := H1
                clear H1
                obtain rfl := Option.some.inj H
                have p159 : 0 ≤ (x5_1 : Int) := of_decide_eq_true (by first | (with_reducible assumption) | assumption)
                have q159 : x5_1 < (l0.length : Int) := of_decide_eq_true (by first | (with_reducible assumption) | assumption)
                obtain ⟨ad159, A159_2, c159_2, e159, hx159_0, hx159_1, hx159_2, hl159_2, hi159_2⟩ := at_T25 HR0.out x5_1 p159 q159
                cases e159
                have HR159_2 := Aside0.mk hi159_2
                have HC159_2 := Aside0.mk hl159_2
                clear hi159_2 hl159_2
                replace p159 := eq_true p159
                replace q159 := eq_true q159
                have p160 : 0 ≤ (x5_1 : Int) := of_decide_eq_true (by first | (with_reducible assumption) | assumption)
                have q160 : x5_1 < (l1.length : Int) := of_decide_eq_true (by first | (with_reducible assumption) | assumption)
                obtain ⟨ad160, A160_2, c160_2, e160, hx160_0, hx160_1, hx160_2, hl160_2, hi160_2⟩ := at_T25 HR1.out x5_1 p160 q160
                cases e160
                have HR160_2 := Aside0.mk hi160_2
                have HC160_2 := Aside0.mk hl160_2
                clear hi160_2 hl160_2
                replace p160 := eq_true p160
                replace q160 := eq_true q160
                go_wp2_with (first | (go_at_call 28; (with_reducible refine (selvedgeref01_Same.calls k1 _ _ ((rd_T25 l0 x5_1).f2) _ _ ((rd_T25 l1 x5_1).f2) false _ ?side1 ?side2 ?side3 ?side4 A7.out).mono ?_); (case side1 => repeat (first | exact HR159_2.out | (with_reducible refine Kd.C_alloc ?_ _) | (with_reducible refine Kd.C_drewN ?_ _) | (with_reducible refine Kd.C_drew ?_))); (case side2 => exact HC159_2.out); (case side3 => repeat (first | exact HR160_2.out | (with_reducible refine Kd.C_alloc ?_ _) | (with_reducible refine Kd.C_drewN ?_ _) | (with_reducible refine Kd.C_drew ?_))); (case side4 => exact HC160_2.out); rintro e w' ⟨rfl, ⟨nd, rfl⟩⟩; (try first | exact ⟨rfl, _, World.drewN_drewN _ _ _⟩ | exact ⟨rfl, _, Eq.trans (World.drewN_drewN _ _ _) (congrArg (World.drewN _) (Nat.add_assoc _ _ _))⟩)))
                (try simp only [Act.put, List.setIfInBounds_toArray, List.set_cons_zero, List.set_cons_succ])
                repeat (go_quiet (first | (go_at_call 28; (with_reducible refine (selvedgeref01_Same.calls k1 _ _ ((rd_T25 l0 x5_1).f2) _ _ ((rd_T25 l1 x5_1).f2) false _ ?side1 ?side2 ?side3 ?side4 A7.out).mono ?_); (case side1 => repeat (first | exact HR159_2.out | (with_reducible refine Kd.C_alloc ?_ _) | (with_reducible refine Kd.C_drewN ?_ _) | (with_reducible refine Kd.C_drew ?_))); (case side2 => exact HC159_2.out); (case side3 => repeat (first | exact HR160_2.out | (with_reducible refine Kd.C_alloc ?_ _) | (with_reducible refine Kd.C_drewN ?_ _) | (with_reducible refine Kd.C_drew ?_))); (case side4 => exact HC160_2.out); rintro e w' ⟨rfl, ⟨nd, rfl⟩⟩; (try first | exact ⟨rfl, _, World.drewN_drewN _ _ _⟩ | exact ⟨rfl, _, Eq.trans (World.drewN_drewN _ _ _) (congrArg (World.drewN _) (Nat.add_assoc _ _ _))⟩))); try go_wp2_with (first | (go_at_call 28; (with_reducible refine (selvedgeref01_Same.calls k1 _ _ ((rd_T25 l0 x5_1).f2) _ _ ((rd_T25 l1 x5_1).f2) false _ ?side1 ?side2 ?side3 ?side4 A7.out).mono ?_); (case side1 => repeat (first | exact HR159_2.out | (with_reducible refine Kd.C_alloc ?_ _) | (with_reducible refine Kd.C_drewN ?_ _) | (with_reducible refine Kd.C_drew ?_))); (case side2 => exact HC159_2.out); (case side3 => repeat (first | exact HR160_2.out | (with_reducible refine Kd.C_alloc ?_ _) | (with_reducible refine Kd.C_drewN ?_ _) | (with_reducible refine Kd.C_drew ?_))); (case side4 => exact HC160_2.out); rintro e w' ⟨rfl, ⟨nd, rfl⟩⟩; (try first | exact ⟨rfl, _, World.drewN_drewN _ _ _⟩ | exact ⟨rfl, _, Eq.trans (World.drewN_drewN _ _ _) (congrArg (World.drewN _) (Nat.add_assoc _ _ _))⟩))))
                go_ret
                exact ⟨by first | rfl | (simp; done) | (simp [*]; done), by repeat (first | exact Drawn0.refl _ | apply Drawn0.step)⟩
            · rw [if_neg c6] at H
              exact absurd H (by simp)
          · rw [if_neg c5] at H
            exact absurd H (by simp)
        · rw [if_neg c4] at H
          have c4b0 : decide (x5_1 < (l0.length : Int)) = false := decide_eq_false c4
          clear c4
          obtain rfl := Option.some.inj H
          go_wp2
          repeat (go_quiet (fail); try go_wp2)
          go_ret
          exact ⟨by first | rfl | (simp; done) | (simp [*]; done), by repeat (first | exact Drawn0.refl _ | apply Drawn0.step)⟩
  · rw [if_neg c3] at H
    have c3b0 : ((l0.length : Int) == (l1.length : Int)) = false := beq_eq_false_iff_ne.mpr c3
    have c3b1 : ((l0.length : Int) != (l1.length : Int)) = true := bne_iff_ne.mpr c3
    have c3b2 : (l0.length == l1.length) = false := by first | simpa using c3 | (simp at c3 ⊢; omega)
    obtain rfl := Option.some.inj H
    go_enter Try.func22, Try.ntmps22
    go_wp2
    repeat (go_quiet (fail); try go_wp2)
    go_ret
    exact ⟨by first | rfl | (simp; done) | (simp [*]; done), by repeat (first | exact Drawn0.refl _ | apply Drawn0.step)⟩

end Go.Proofs.Ytiknkkkfkifahaa.PCutPrefix
