-- written by a program of this session (pp.py), out of the kit's print and this session's contracts
import Derived.Test.YtcbfnmabckjijaaPOrderMarksx0
import Derived.Test.YtcbfnmabckjijaaPOrderMarksx3
namespace Go.Proofs.Ytcbfnmabckjijaa.POrderMarks
open Go.RowKit Go.Proofs.YtcbfnmabckjijaaW.PrintWords Go.Proofs.YtcbfnmabckjijaaW.PrintLast Go.Proofs.YtcbfnmabckjijaaW.PrintMore
attribute [local go_sem] max2_int min2_int max_two min_two max_three min_three max_four min_four   -- for this text's walks alone
set_option linter.unusedVariables false
set_option linter.unusedSimpArgs false

/-! ### selvedgeref14_Same: function 18 -/
def selvedgeref14_Same.l0 : Nat → List (S54) → List (S54) → Int → Option (Bool)
  | 0, _, _, _ => none
  | k + 1, x0, x1, x5 => if x5 < (x0.length : Int) then (if 0 ≤ x5 then (if x5 < (x1.length : Int) then ((selvedgeref05_Ints.f k ((rd_T54 x0 x5).f2) ((rd_T54 x1 x5).f2)).bind fun t134 => (if t134 = true then (if ((rd_T54 x0 x5).f0) = ((rd_T54 x1 x5).f0) then (if ((rd_T54 x0 x5).f1) = ((rd_T54 x1 x5).f1) then (selvedgeref14_Same.l0 k x0 x1 (wrap64 (x5 + 1))) else (some false)) else (some false)) else (some false))) else (none)) else (none)) else (some true)
def selvedgeref14_Same.f (k : Nat) (l0 : List (S54)) (l1 : List (S54)) : Option (Bool) := if (l0.length : Int) = (l1.length : Int) then (selvedgeref14_Same.l0 k l0 l1 0) else (some false)
theorem selvedgeref14_Same.mono_l : ∀ k, (∀ y0 y1 y2, LeO (selvedgeref14_Same.l0 k y0 y1 y2) (selvedgeref14_Same.l0 (k + 1) y0 y1 y2))
  | 0 => fun _ _ _ r h => by simp [selvedgeref14_Same.l0] at h
  | k + 1 => by
    have ih0 := selvedgeref14_Same.mono_l k
    · intro y0 y1 y2
      unfold selvedgeref14_Same.l0
      repeat' first
      | (with_reducible exact ih0 _ _ _)
      | (with_reducible exact selvedgeref05_Ints.mono _ _ _)
      | (with_reducible exact LeO.refl _)
      | (with_reducible exact LeO.none _)
      | (with_reducible refine LeO.ite ?_ ?_)
      | (with_reducible refine LeO.bind ?_ (fun _ => ?_))
      | exact ih0 _ _ _
      | exact selvedgeref05_Ints.mono _ _ _
      | exact LeO.none _
      | refine LeO.ite ?_ ?_
      | refine LeO.bind ?_ (fun _ => ?_)
theorem selvedgeref14_Same.mono : ∀ a0 a1 k, LeO (selvedgeref14_Same.f k a0 a1) (selvedgeref14_Same.f (k + 1) a0 a1) := by
  intro a0 a1 k
  have ih0 := selvedgeref14_Same.mono_l k
  unfold selvedgeref14_Same.f
  repeat' first
      | (with_reducible exact ih0 _ _ _)
      | (with_reducible exact selvedgeref05_Ints.mono _ _ _)
      | (with_reducible exact LeO.refl _)
      | (with_reducible exact LeO.none _)
      | (with_reducible refine LeO.ite ?_ ?_)
      | (with_reducible refine LeO.bind ?_ (fun _ => ?_))
      | exact ih0 _ _ _
      | exact selvedgeref05_Ints.mono _ _ _
      | exact LeO.none _
      | refine LeO.ite ?_ ?_
      | refine LeO.bind ?_ (fun _ => ?_)
set_option maxHeartbeats 8000000 in
set_option maxRecDepth 100000 in
theorem selvedgeref14_Same.calls (k : Nat) (A0 : Option Addr) (c0 : Nat) (l0 : List (S54)) (A1 : Option Addr) (c1 : Nat) (l1 : List (S54)) (r : Bool) (w : World) (hr0 : Kd.C k54 w A0 l0.length l0) (hc0 : l0.length ≤ c0) (hr1 : Kd.C k54 w A1 l1.length l1) (hc1 : l1.length ≤ c1) (h : selvedgeref14_Same.f k l0 l1 = some r) :
    Calls Try.prog 18 #[.slice A0 l0.length c0, .slice A1 l1.length c1] w fun e w' => e = .returned (.bool r) ∧ Drawn0 w w' := by
  have HR0 := Aside0.mk hr0
  have HC0 := Aside0.mk hc0
  clear hr0 hc0
  have HR1 := Aside0.mk hr1
  have HC1 := Aside0.mk hc1
  clear hr1 hc1
  have H : (if (l0.length : Int) = (l1.length : Int) then (selvedgeref14_Same.l0 k l0 l1 0) else (some false)) = some r := h
  clear h
  by_cases c3 : (l0.length : Int) = (l1.length : Int)
  · rw [if_pos c3] at H
    have c3b0 : ((l0.length : Int) == (l1.length : Int)) = true := beq_iff_eq.mpr c3
    have c3b1 : ((l0.length : Int) != (l1.length : Int)) = false := bne_eq_false_iff_eq.mpr c3
    have c3b2 : (l0.length == l1.length) = true := by first | simpa using c3 | (simp at c3 ⊢; omega)
    clear c3
    have H' := Aside0.mk H
    clear H
    go_enter Try.func18, Try.ntmps18
    go_wp2
    repeat (go_quiet (fail); try go_wp2)
    go_loopg [5] k (fun kq v5 w' => ∃ (x5_1 : Int), v5 = .int .i64 x5_1 ∧ Aside0 (selvedgeref14_Same.l0 kq l0 l1 x5_1 = some r) ∧ Aside0 (kq ≤ k) ∧ Drawn0 w w')
    case atStart => exact ⟨(0), (by first | rfl | (simp; done) | (simp [*]; done)), H', ⟨Nat.le_refl _⟩, by repeat (first | exact Drawn0.refl _ | apply Drawn0.step)⟩
    case round =>
      clear H'
      try clear c1
      try clear p2
      try clear c3
      try clear c3b0
      try clear c3b1
      try clear c3b2
      obtain ⟨x5_1, rfl, HA, HK1, ⟨m1, rfl⟩⟩ := hrel
      cases gk with
      | zero => exact absurd HA.out (by simp [selvedgeref14_Same.l0])
      | succ k1 =>
        have H := HA.out
        clear HA
        simp only [selvedgeref14_Same.l0] at H
        by_cases c4 : x5_1 < (l0.length : Int)
        · rw [if_pos c4] at H
          have c4b0 : decide (x5_1 < (l0.length : Int)) = true := decide_eq_true c4
          clear c4
          by_cases c5 : 0 ≤ x5_1
          · rw [if_pos c5] at H
            have c5b0 : decide (0 ≤ x5_1) = true := decide_eq_true c5
            clear c5
            by_cases c6 : x5_1 < (l1.length : Int)
            · rw [if_pos c6] at H
              have c6b0 : decide (x5_1 < (l1.length : Int)) = true := decide_eq_true c6
              clear c6
              replace H := Option.bind_eq_some_iff.mp H
              obtain ⟨t134, A70, H⟩ := H
              replace H : (if t134 = true then (if ((rd_T54 l0 x5_1).f0) = ((rd_T54 l1 x5_1).f0) then (if ((rd_T54 l0 x5_1).f1) = ((rd_T54 l1 x5_1).f1) then (selvedgeref14_Same.l0 k1 l0 l1 (wrap64 (x5_1 + 1))) else (some false)) else (some false)) else (some false)) = some r := H
              have A7 := Aside0.mk A70
              clear A70
              by_cases c8 : t134 = true
              · subst c8
                have H1 : (if ((rd_T54 l0 x5_1).f0) = ((rd_T54 l1 x5_1).f0) then (if ((rd_T54 l0 x5_1).f1) = ((rd_T54 l1 x5_1).f1) then (selvedgeref14_Same.l0 k1 l0 l1 (wrap64 (x5_1 + 1))) else (some false)) else (some false)) = some r := by rw [if_pos rfl] at H; exact H
                clear H
                have H := H1
                clear H1
                by_cases c9 : ((rd_T54 l0 x5_1).f0) = ((rd_T54 l1 x5_1).f0)
                · rw [if_pos c9] at H
                  have c9b0 : (((rd_T54 l0 x5_1).f0) == ((rd_T54 l1 x5_1).f0)) = true := beq_iff_eq.mpr c9
                  have c9b1 : (((rd_T54 l0 x5_1).f0) != ((rd_T54 l1 x5_1).f0)) = false := bne_eq_false_iff_eq.mpr c9
                  clear c9
                  by_cases c10 : ((rd_T54 l0 x5_1).f1) = ((rd_T54 l1 x5_1).f1)
                  · rw [if_pos c10] at H
                    have c10b0 : (((rd_T54 l0 x5_1).f1) == ((rd_T54 l1 x5_1).f1)) = true := beq_iff_eq.mpr c10
                    have c10b1 : (((rd_T54 l0 x5_1).f1) != ((rd_T54 l1 x5_1).f1)) = false := bne_eq_false_iff_eq.mpr c10
                    clear c10
                    have H' := Aside0.mk H
                    clear H
                    have p132 : 0 ≤ (x5_1 : Int) := of_decide_eq_true (by first | (with_reducible assumption) | assumption)
                    have q132 : x5_1 < (l0.length : Int) := of_decide_eq_true (by first | (with_reducible assumption) | assumption)
                    obtain ⟨ad132, A132_2, c132_2, e132, hx132_0, hx132_1, hx132_2, hl132_2, hi132_2⟩ := at_T54 HR0.out x5_1 p132 q132
                    cases e132
                    have HR132_2 := Aside0.mk hi132_2
                    have HC132_2 := Aside0.mk hl132_2
                    clear hi132_2 hl132_2
                    replace p132 := eq_true p132
                    replace q132 := eq_true q132
                    have p133 : 0 ≤ (x5_1 : Int) := of_decide_eq_true (by first | (with_reducible assumption) | assumption)
                    have q133 : x5_1 < (l1.length : Int) := of_decide_eq_true (by first | (with_reducible assumption) | assumption)
                    obtain ⟨ad133, A133_2, c133_2, e133, hx133_0, hx133_1, hx133_2, hl133_2, hi133_2⟩ := at_T54 HR1.out x5_1 p133 q133
                    cases e133
                    have HR133_2 := Aside0.mk hi133_2
                    have HC133_2 := Aside0.mk hl133_2
                    clear hi133_2 hl133_2
                    replace p133 := eq_true p133
                    replace q133 := eq_true q133
                    go_wp2_with (first | (go_at_call 39; (with_reducible refine (selvedgeref05_Ints.calls k1 _ _ ((rd_T54 l0 x5_1).f2) _ _ ((rd_T54 l1 x5_1).f2) true _ ?side1 ?side2 ?side3 ?side4 A7.out).mono ?_); (case side1 => repeat (first | exact HR132_2.out | (with_reducible refine Kd.C_alloc ?_ _) | (with_reducible refine Kd.C_drewN ?_ _) | (with_reducible refine Kd.C_drew ?_))); (case side2 => exact HC132_2.out); (case side3 => repeat (first | exact HR133_2.out | (with_reducible refine Kd.C_alloc ?_ _) | (with_reducible refine Kd.C_drewN ?_ _) | (with_reducible refine Kd.C_drew ?_))); (case side4 => exact HC133_2.out); rintro e w' ⟨rfl, ⟨nd, rfl⟩⟩; (try first | exact ⟨rfl, _, World.drewN_drewN _ _ _⟩ | exact ⟨rfl, _, Eq.trans (World.drewN_drewN _ _ _) (congrArg (World.drewN _) (Nat.add_assoc _ _ _))⟩); have p135 : 0 ≤ (x5_1 : Int) := of_decide_eq_true (by first | (with_reducible assumption) | assumption); have q135 : x5_1 < (l0.length : Int) := of_decide_eq_true (by first | (with_reducible assumption) | assumption); obtain ⟨ad135, A135_2, c135_2, e135, hx135_0, hx135_1, hx135_2, hl135_2, hi135_2⟩ := at_T54 HR0.out x5_1 p135 q135; obtain rfl : ad132 = ad135 := (by injection e135); have HR135_2 := Aside0.mk hi135_2; have HC135_2 := Aside0.mk hl135_2; clear hi135_2 hl135_2; replace p135 := eq_true p135; replace q135 := eq_true q135; have ea_ := Option.some.inj (hx132_2.symm.trans hx135_2); injection ea_ with ea_ en_ ec_; subst ea_; subst ec_; clear en_; have p136 : 0 ≤ (x5_1 : Int) := of_decide_eq_true (by first | (with_reducible assumption) | assumption); have q136 : x5_1 < (l1.length : Int) := of_decide_eq_true (by first | (with_reducible assumption) | assumption); obtain ⟨ad136, A136_2, c136_2, e136, hx136_0, hx136_1, hx136_2, hl136_2, hi136_2⟩ := at_T54 HR1.out x5_1 p136 q136; obtain rfl : ad133 = ad136 := (by injection e136); have HR136_2 := Aside0.mk hi136_2; have HC136_2 := Aside0.mk hl136_2; clear hi136_2 hl136_2; replace p136 := eq_true p136; replace q136 := eq_true q136; have ea_ := Option.some.inj (hx133_2.symm.trans hx136_2); injection ea_ with ea_ en_ ec_; subst ea_; subst ec_; clear en_; have p137 : 0 ≤ (x5_1 : Int) := of_decide_eq_true (by first | (with_reducible assumption) | assumption); have q137 : x5_1 < (l0.length : Int) := of_decide_eq_true (by first | (with_reducible assumption) | assumption); obtain ⟨ad137, A137_2, c137_2, e137, hx137_0, hx137_1, hx137_2, hl137_2, hi137_2⟩ := at_T54 HR0.out x5_1 p137 q137; obtain rfl : ad132 = ad137 := (by injection e137); have HR137_2 := Aside0.mk hi137_2; have HC137_2 := Aside0.mk hl137_2; clear hi137_2 hl137_2; replace p137 := eq_true p137; replace q137 := eq_true q137; have ea_ := Option.some.inj (hx132_2.symm.trans hx137_2); injection ea_ with ea_ en_ ec_; subst ea_; subst ec_; clear en_; have p138 : 0 ≤ (x5_1 : Int) := of_decide_eq_true (by first | (with_reducible assumption) | assumption); have q138 : x5_1 < (l1.length : Int) := of_decide_eq_true (by first | (with_reducible assumption) | assumption); obtain ⟨ad138, A138_2, c138_2, e138, hx138_0, hx138_1, hx138_2, hl138_2, hi138_2⟩ := at_T54 HR1.out x5_1 p138 q138; obtain rfl : ad133 = ad138 := (by injection e138); have HR138_2 := Aside0.mk hi138_2; have HC138_2 := Aside0.mk hl138_2; clear hi138_2 hl138_2; replace p138 := eq_true p138; replace q138 := eq_true q138; have ea_ := Option.some.inj (hx133_2.symm.trans hx138_2); injection ea_ with ea_ en_ ec_; subst ea_; subst ec_; clear en_))
                    (try simp only [Act.put, List.setIfInBounds_toArray, List.set_cons_zero, List.set_cons_succ])
                    repeat (go_quiet (first | (go_at_call 39; (with_reducible refine (selvedgeref05_Ints.calls k1 _ _ ((rd_T54 l0 x5_1).f2) _ _ ((rd_T54 l1 x5_1).f2) true _ ?side1 ?side2 ?side3 ?side4 A7.out).mono ?_); (case side1 => repeat (first | exact HR132_2.out | (with_reducible refine Kd.C_alloc ?_ _) | (with_reducible refine Kd.C_drewN ?_ _) | (with_reducible refine Kd.C_drew ?_))); (case side2 => exact HC132_2.out); (case side3 => repeat (first | exact HR133_2.out | (with_reducible refine Kd.C_alloc ?_ _) | (with_reducible refine Kd.C_drewN ?_ _) | (with_reducible refine Kd.C_drew ?_))); (case side4 => exact HC133_2.out); rintro e w' ⟨rfl, ⟨nd, rfl⟩⟩; (try first | exact ⟨rfl, _, World.drewN_drewN _ _ _⟩ | exact ⟨rfl, _, Eq.trans (World.drewN_drewN _ _ _) (congrArg (World.drewN _) (Nat.add_assoc _ _ _))⟩); have p135 : 0 ≤ (x5_1 : Int) := of_decide_eq_true (by first | (with_reducible assumption) | assumption); have q135 : x5_1 < (l0.length : Int) := of_decide_eq_true (by first | (with_reducible assumption) | assumption); obtain ⟨ad135, A135_2, c135_2, e135, hx135_0, hx135_1, hx135_2, hl135_2, hi135_2⟩ := at_T54 HR0.out x5_1 p135 q135; obtain rfl : ad132 = ad135 := (by injection e135); have HR135_2 := Aside0.mk hi135_2; have HC135_2 := Aside0.mk hl135_2; clear hi135_2 hl135_2; replace p135 := eq_true p135; replace q135 := eq_true q135; have ea_ := Option.some.inj (hx132_2.symm.trans hx135_2); injection ea_ with ea_ en_ ec_; subst ea_; subst ec_; clear en_; have p136 : 0 ≤ (x5_1 : Int) := of_decide_eq_true (by first | (with_reducible assumption) | assumption); have q136 : x5_1 < (l1.length : Int) := of_decide_eq_true (by first | (with_reducible assumption) | assumption); obtain ⟨ad136, A136_2, c136_2, e136, hx136_0, hx136_1, hx136_2, hl136_2, hi136_2⟩ := at_T54 HR1.out x5_1 p136 q136; obtain rfl : ad133 = ad136 := (by injection e136); have HR136_2 := Aside0.mk hi136_2; have HC136_2 := Aside0.mk hl136_2; clear hi136_2 hl136_2; replace p136 := eq_true p136; replace q136 := eq_true q136; have ea_ := Option.some.inj (hx133_2.symm.trans hx136_2); injection ea_ with ea_ en_ ec_; subst ea_; subst ec_; clear en_; have p137 : 0 ≤ (x5_1 : Int) := of_decide_eq_true (by first | (with_reducible assumption) | assumption); have q137 : x5_1 < (l0.length : Int) := of_decide_eq_true (by first | (with_reducible assumption) | assumption); obtain ⟨ad137, A137_2, c137_2, e137, hx137_0, hx137_1, hx137_2, hl137_2, hi137_2⟩ := at_T54 HR0.out x5_1 p137 q137; obtain rfl : ad132 = ad137 := (by injection e137); have HR137_2 := Aside0.mk hi137_2; have HC137_2 := Aside0.mk hl137_2; clear hi137_2 hl137_2; replace p137 := eq_true p137; replace q137 := eq_true q137; have ea_ := Option.some.inj (hx132_2.symm.trans hx137_2); injection ea_ with ea_ en_ ec_; subst ea_; subst ec_; clear en_; have p138 : 0 ≤ (x5_1 : Int) := of_decide_eq_true (by first | (with_reducible assumption) | assumption); have q138 : x5_1 < (l1.length : Int) := of_decide_eq_true (by first | (with_reducible assumption) | assumption); obtain ⟨ad138, A138_2, c138_2, e138, hx138_0, hx138_1, hx138_2, hl138_2, hi138_2⟩ := at_T54 HR1.out x5_1 p138 q138; obtain rfl : ad133 = ad138 := (by injection e138); have HR138_2 := Aside0.mk hi138_2; have HC138_2 := Aside0.mk hl138_2; clear hi138_2 hl138_2; replace p138 := eq_true p138; replace q138 := eq_true q138; have ea_ := Option.some.inj (hx133_2.symm.trans hx138_2); injection ea_ with ea_ en_ ec_; subst ea_; subst ec_; clear en_)); try go_wp2_with (first | (go_at_call 39; (with_reducible refine (selvedgeref05_Ints.calls k1 _ _ ((rd_T54 l0 x5_1).f2) _ _ ((rd_T54 l1 x5_1).f2) true _ ?side1 ?side2 ?side3 ?side4 A7.out).mono ?_); (case side1 => repeat (first | exact HR132_2.out | (with_reducible refine Kd.C_alloc ?_ _) | (with_reducible refine Kd.C_drewN ?_ _) | (with_reducible refine Kd.C_drew ?_))); (case side2 => exact HC132_2.out); (case side3 => repeat (first | exact HR133_2.out | (with_reducible refine Kd.C_alloc ?_ _) | (with_reducible refine Kd.C_drewN ?_ _) | (with_reducible refine Kd.C_drew ?_))); (case side4 => exact HC133_2.out); rintro e w' ⟨rfl, ⟨nd, rfl⟩⟩; (try first | exact ⟨rfl, _, World.drewN_drewN _ _ _⟩ | exact ⟨rfl, _, Eq.trans (World.drewN_drewN _ _ _) (congrArg (World.drewN _) (Nat.add_assoc _ _ _))⟩); have p135 : 0 ≤ (x5_1 : Int) := of_decide_eq_true (by first | (with_reducible assumption) | assumption); have q135 : x5_1 < (l0.length : Int) := of_decide_eq_true (by first | (with_reducible assumption) | assumption); obtain ⟨ad135, A135_2, c135_2, e135, hx135_0, hx135_1, hx135_2, hl135_2, hi135_2⟩ := at_T54 HR0.out x5_1 p135 q135; obtain rfl : ad132 = ad135 := (by injection e135); have HR135_2 := Aside0.mk hi135_2; have HC135_2 := Aside0.mk hl135_2; clear hi135_2 hl135_2; replace p135 := eq_true p135; replace q135 := eq_true q135; have ea_ := Option.some.inj (hx132_2.symm.trans hx135_2); injection ea_ with ea_ en_ ec_; subst ea_; subst ec_; clear en_; have p136 : 0 ≤ (x5_1 : Int) := of_decide_eq_true (by first | (with_reducible assumption) | assumption); have q136 : x5_1 < (l1.length : Int) := of_decide_eq_true (by first | (with_reducible assumption) | assumption); obtain ⟨ad136, A136_2, c136_2, e136, hx136_0, hx136_1, hx136_2, hl136_2, hi136_2⟩ := at_T54 HR1.out x5_1 p136 q136; obtain rfl : ad133 = ad136 := (by injection e136); have HR136_2 := Aside0.mk hi136_2; have HC136_2 := Aside0.mk hl136_2; clear hi136_2 hl136_2; replace p136 := eq_true p136; replace q136 := eq_true q136; have ea_ := Option.some.inj (hx133_2.symm.trans hx136_2); injection ea_ with ea_ en_ ec_; subst ea_; subst ec_; clear en_; have p137 : 0 ≤ (x5_1 : Int) := of_decide_eq_true (by first | (with_reducible assumption) | assumption); have q137 : x5_1 < (l0.length : Int) := of_decide_eq_true (by first | (with_reducible assumption) | assumption); obtain ⟨ad137, A137_2, c137_2, e137, hx137_0, hx137_1, hx137_2, hl137_2, hi137_2⟩ := at_T54 HR0.out x5_1 p137 q137; obtain rfl : ad132 = ad137 := (by injection e137); have HR137_2 := Aside0.mk hi137_2; have HC137_2 := Aside0.mk hl137_2; clear hi137_2 hl137_2; replace p137 := eq_true p137; replace q137 := eq_true q137; have ea_ := Option.some.inj (hx132_2.symm.trans hx137_2); injection ea_ with ea_ en_ ec_; subst ea_; subst ec_; clear en_; have p138 : 0 ≤ (x5_1 : Int) := of_decide_eq_true (by first | (with_reducible assumption) | assumption); have q138 : x5_1 < (l1.length : Int) := of_decide_eq_true (by first | (with_reducible assumption) | assumption); obtain ⟨ad138, A138_2, c138_2, e138, hx138_0, hx138_1, hx138_2, hl138_2, hi138_2⟩ := at_T54 HR1.out x5_1 p138 q138; obtain rfl : ad133 = ad138 := (by injection e138); have HR138_2 := Aside0.mk hi138_2; have HC138_2 := Aside0.mk hl138_2; clear hi138_2 hl138_2; replace p138 := eq_true p138; replace q138 := eq_true q138; have ea_ := Option.some.inj (hx133_2.symm.trans hx138_2); injection ea_ with ea_ en_ ec_; subst ea_; subst ec_; clear en_)))
                    go_roundg k1
                    case measure => have := HK1.out; omega
                    case rel => exact ⟨(wrap64 (x5_1 + 1)), (by first | rfl | (simp; done) | (simp [*]; done)), H', ⟨by have := HK1.out; omega⟩, by repeat (first | exact Drawn0.refl _ | apply Drawn0.step)⟩
                  · rw [if_neg c10] at H
                    have c10b0 : (((rd_T54 l0 x5_1).f1) == ((rd_T54 l1 x5_1).f1)) = false := beq_eq_false_iff_ne.mpr c10
                    have c10b1 : (((rd_T54 l0 x5_1).f1) != ((rd_T54 l1 x5_1).f1)) = true := bne_iff_ne.mpr c10
                    obtain rfl := Option.some.inj H
                    have p132 : 0 ≤ (x5_1 : Int) := of_decide_eq_true (by first | (with_reducible assumption) | assumption)
                    have q132 : x5_1 < (l0.length : Int) := of_decide_eq_true (by first | (with_reducible assumption) | assumption)
                    obtain ⟨ad132, A132_2, c132_2, e132, hx132_0, hx132_1, hx132_2, hl132_2, hi132_2⟩ := at_T54 HR0.out x5_1 p132 q132
                    cases e132
                    have HR132_2 := Aside0.mk hi132_2
                    have HC132_2 := Aside0.mk hl132_2
                    clear hi132_2 hl132_2
                    replace p132 := eq_true p132
                    replace q132 := eq_true q132
                    have p133 : 0 ≤ (x5_1 : Int) := of_decide_eq_true (by first | (with_reducible assumption) | assumption)
                    have q133 : x5_1 < (l1.length : Int) := of_decide_eq_true (by first | (with_reducible assumption) | assumption)
                    obtain ⟨ad133, A133_2, c133_2, e133, hx133_0, hx133_1, hx133_2, hl133_2, hi133_2⟩ := at_T54 HR1.out x5_1 p133 q133
                    cases e133
                    have HR133_2 := Aside0.mk hi133_2
                    have HC133_2 := Aside0.mk hl133_2
                    clear hi133_2 hl133_2
                    replace p133 := eq_true p133
                    replace q133 := eq_true q133
                    go_wp2_with (first | (go_at_call 39; (with_reducible refine (selvedgeref05_Ints.calls k1 _ _ ((rd_T54 l0 x5_1).f2) _ _ ((rd_T54 l1 x5_1).f2) true _ ?side1 ?side2 ?side3 ?side4 A7.out).mono ?_); (case side1 => repeat (first | exact HR132_2.out | (with_reducible refine Kd.C_alloc ?_ _) | (with_reducible refine Kd.C_drewN ?_ _) | (with_reducible refine Kd.C_drew ?_))); (case side2 => exact HC132_2.out); (case side3 => repeat (first | exact HR133_2.out | (with_reducible refine Kd.C_alloc ?_ _) | (with_reducible refine Kd.C_drewN ?_ _) | (with_reducible refine Kd.C_drew ?_))); (case side4 => exact HC133_2.out); rintro e w' ⟨rfl, ⟨nd, rfl⟩⟩; (try first | exact ⟨rfl, _, World.drewN_drewN _ _ _⟩ | exact ⟨rfl, _, Eq.trans (World.drewN_drewN _ _ _) (congrArg (World.drewN _) (Nat.add_assoc _ _ _))⟩); have p135 : 0 ≤ (x5_1 : Int) := of_decide_eq_true (by first | (with_reducible assumption) | assumption); have q135 : x5_1 < (l0.length : Int) := of_decide_eq_true (by first | (with_reducible assumption) | assumption); obtain ⟨ad135, A135_2, c135_2, e135, hx135_0, hx135_1, hx135_2, hl135_2, hi135_2⟩ := at_T54 HR0.out x5_1 p135 q135; obtain rfl : ad132 = ad135 := (by injection e135); have HR135_2 := Aside0.mk hi135_2; have HC135_2 := Aside0.mk hl135_2; clear hi135_2 hl135_2; replace p135 := eq_true p135; replace q135 := eq_true q135; have ea_ := Option.some.inj (hx132_2.symm.trans hx135_2); injection ea_ with ea_ en_ ec_; subst ea_; subst ec_; clear en_; have p136 : 0 ≤ (x5_1 : Int) := of_decide_eq_true (by first | (with_reducible assumption) | assumption); have q136 : x5_1 < (l1.length : Int) := of_decide_eq_true (by first | (with_reducible assumption) | assumption); obtain ⟨ad136, A136_2, c136_2, e136, hx136_0, hx136_1, hx136_2, hl136_2, hi136_2⟩ := at_T54 HR1.out x5_1 p136 q136; obtain rfl : ad133 = ad136 := (by injection e136); have HR136_2 := Aside0.mk hi136_2; have HC136_2 := Aside0.mk hl136_2; clear hi136_2 hl136_2; replace p136 := eq_true p136; replace q136 := eq_true q136; have ea_ := Option.some.inj (hx133_2.symm.trans hx136_2); injection ea_ with ea_ en_ ec_; subst ea_; subst ec_; clear en_; have p137 : 0 ≤ (x5_1 : Int) := of_decide_eq_true (by first | (with_reducible assumption) | assumption); have q137 : x5_1 < (l0.length : Int) := of_decide_eq_true (by first | (with_reducible assumption) | assumption); obtain ⟨ad137, A137_2, c137_2, e137, hx137_0, hx137_1, hx137_2, hl137_2, hi137_2⟩ := at_T54 HR0.out x5_1 p137 q137; obtain rfl : ad132 = ad137 := (by injection e137); have HR137_2 := Aside0.mk hi137_2; have HC137_2 := Aside0.mk hl137_2; clear hi137_2 hl137_2; replace p137 := eq_true p137; replace q137 := eq_true q137; have ea_ := Option.some.inj (hx132_2.symm.trans hx137_2); injection ea_ with ea_ en_ ec_; subst ea_; subst ec_; clear en_; have p138 : 0 ≤ (x5_1 : Int) := of_decide_eq_true (by first | (with_reducible assumption) | assumption); have q138 : x5_1 < (l1.length : Int) := of_decide_eq_true (by first | (with_reducible assumption) | assumption); obtain ⟨ad138, A138_2, c138_2, e138, hx138_0, hx138_1, hx138_2, hl138_2, hi138_2⟩ := at_T54 HR1.out x5_1 p138 q138; obtain rfl : ad133 = ad138 := (by injection e138); have HR138_2 := Aside0.mk hi138_2; have HC138_2 := Aside0.mk hl138_2; clear hi138_2 hl138_2; replace p138 := eq_true p138; replace q138 := eq_true q138; have ea_ := Option.some.inj (hx133_2.symm.trans hx138_2); injection ea_ with ea_ en_ ec_; subst ea_; subst ec_; clear en_))
                    (try simp only [Act.put, List.setIfInBounds_toArray, List.set_cons_zero, List.set_cons_succ])
                    repeat (go_quiet (first | (go_at_call 39; (with_reducible refine (selvedgeref05_Ints.calls k1 _ _ ((rd_T54 l0 x5_1).f2) _ _ ((rd_T54 l1 x5_1).f2) true _ ?side1 ?side2 ?side3 ?side4 A7.out).mono ?_); (case side1 => repeat (first | exact HR132_2.out | (with_reducible refine Kd.C_alloc ?_ _) | (with_reducible refine Kd.C_drewN ?_ _) | (with_reducible refine Kd.C_drew ?_))); (case side2 => exact HC132_2.out); (case side3 => repeat (first | exact HR133_2.out | (with_reducible refine Kd.C_alloc ?_ _) | (with_reducible refine Kd.C_drewN ?_ _) | (with_reducible refine Kd.C_drew ?_))); (case side4 => exact HC133_2.out); rintro e w' ⟨rfl, ⟨nd, rfl⟩⟩; (try first | exact ⟨rfl, _, World.drewN_drewN _ _ _⟩ | exact ⟨rfl, _, Eq.trans (World.drewN_drewN _ _ _) (congrArg (World.drewN _) (Nat.add_assoc _ _ _))⟩); have p135 : 0 ≤ (x5_1 : Int) := of_decide_eq_true (by first | (with_reducible assumption) | assumption); have q135 : x5_1 < (l0.length : Int) := of_decide_eq_true (by first | (with_reducible assumption) | assumption); obtain ⟨ad135, A135_2, c135_2, e135, hx135_0, hx135_1, hx135_2, hl135_2, hi135_2⟩ := at_T54 HR0.out x5_1 p135 q135; obtain rfl : ad132 = ad135 := (by injection e135); have HR135_2 := Aside0.mk hi135_2; have HC135_2 := Aside0.mk hl135_2; clear hi135_2 hl135_2; replace p135 := eq_true p135; replace q135 := eq_true q135; have ea_ := Option.some.inj (hx132_2.symm.trans hx135_2); injection ea_ with ea_ en_ ec_; subst ea_; subst ec_; clear en_; have p136 : 0 ≤ (x5_1 : Int) := of_decide_eq_true (by first | (with_reducible assumption) | assumption); have q136 : x5_1 < (l1.length : Int) := of_decide_eq_true (by first | (with_reducible assumption) | assumption); obtain ⟨ad136, A136_2, c136_2, e136, hx136_0, hx136_1, hx136_2, hl136_2, hi136_2⟩ := at_T54 HR1.out x5_1 p136 q136; obtain rfl : ad133 = ad136 := (by injection e136); have HR136_2 := Aside0.mk hi136_2; have HC136_2 := Aside0.mk hl136_2; clear hi136_2 hl136_2; replace p136 := eq_true p136; replace q136 := eq_true q136; have ea_ := Option.some.inj (hx133_2.symm.trans hx136_2); injection ea_ with ea_ en_ ec_; subst ea_; subst ec_; clear en_; have p137 : 0 ≤ (x5_1 : Int) := of_decide_eq_true (by first | (with_reducible assumption) | assumption); have q137 : x5_1 < (l0.length : Int) := of_decide_eq_true (by first | (with_reducible assumption) | assumption); obtain ⟨ad137, A137_2, c137_2, e137, hx137_0, hx137_1, hx137_2, hl137_2, hi137_2⟩ := at_T54 HR0.out x5_1 p137 q137; obtain rfl : ad132 = ad137 := (by injection e137); have HR137_2 := Aside0.mk hi137_2; have HC137_2 := Aside0.mk hl137_2; clear hi137_2 hl137_2; replace p137 := eq_true p137; replace q137 := eq_true q137; have ea_ := Option.some.inj (hx132_2.symm.trans hx137_2); injection ea_ with ea_ en_ ec_; subst ea_; subst ec_; clear en_; have p138 : 0 ≤ (x5_1 : Int) := of_decide_eq_true (by first | (with_reducible assumption) | assumption); have q138 : x5_1 < (l1.length : Int) := of_decide_eq_true (by first | (with_reducible assumption) | assumption); obtain ⟨ad138, A138_2, c138_2, e138, hx138_0, hx138_1, hx138_2, hl138_2, hi138_2⟩ := at_T54 HR1.out x5_1 p138 q138; obtain rfl : ad133 = ad138 := (by injection e138); have HR138_2 := Aside0.mk hi138_2; have HC138_2 := Aside0.mk hl138_2; clear hi138_2 hl138_2; replace p138 := eq_true p138; replace q138 := eq_true q138; have ea_ := Option.some.inj (hx133_2.symm.trans hx138_2); injection ea_ with ea_ en_ ec_; subst ea_; subst ec_; clear en_)); try go_wp2_with (first | (go_at_call 39; (with_reducible refine (selvedgeref05_Ints.calls k1 _ _ ((rd_T54 l0 x5_1).f2) _ _ ((rd_T54 l1 x5_1).f2) true _ ?side1 ?side2 ?side3 ?side4 A7.out).mono ?_); (case side1 => repeat (first | exact HR132_2.out | (with_reducible refine Kd.C_alloc ?_ _) | (with_reducible refine Kd.C_drewN ?_ _) | (with_reducible refine Kd.C_drew ?_))); (case side2 => exact HC132_2.out); (case side3 => repeat (first | exact HR133_2.out | (with_reducible refine Kd.C_alloc ?_ _) | (with_reducible refine Kd.C_drewN ?_ _) | (with_reducible refine Kd.C_drew ?_))); (case side4 => exact HC133_2.out); rintro e w' ⟨rfl, ⟨nd, rfl⟩⟩; (try first | exact ⟨rfl, _, World.drewN_drewN _ _ _⟩ | exact ⟨rfl, _, Eq.trans (World.drewN_drewN _ _ _) (congrArg (World.drewN _) (Nat.add_assoc _ _ _))⟩); have p135 : 0 ≤ (x5_1 : Int) := of_decide_eq_true (by first | (with_reducible assumption) | assumption); have q135 : x5_1 < (l0.length : Int) := of_decide_eq_true (by first | (with_reducible assumption) | assumption); obtain ⟨ad135, A135_2, c135_2, e135, hx135_0, hx135_1, hx135_2, hl135_2, hi135_2⟩ := at_T54 HR0.out x5_1 p135 q135; obtain rfl : ad132 = ad135 := (by injection e135); have HR135_2 := Aside0.mk hi135_2; have HC135_2 := Aside0.mk hl135_2; clear hi135_2 hl135_2; replace p135 := eq_true p135; replace q135 := eq_true q135; have ea_ := Option.some.inj (hx132_2.symm.trans hx135_2); injection ea_ with ea_ en_ ec_; subst ea_; subst ec_; clear en_; have p136 : 0 ≤ (x5_1 : Int) := of_decide_eq_true (by first | (with_reducible assumption) | assumption); have q136 : x5_1 < (l1.length : Int) := of_decide_eq_true (by first | (with_reducible assumption) | assumption); obtain ⟨ad136, A136_2, c136_2, e136, hx136_0, hx136_1, hx136_2, hl136_2, hi136_2⟩ := at_T54 HR1.out x5_1 p136 q136; obtain rfl : ad133 = ad136 := (by injection e136); have HR136_2 := Aside0.mk hi136_2; have HC136_2 := Aside0.mk hl136_2; clear hi136_2 hl136_2; replace p136 := eq_true p136; replace q136 := eq_true q136; have ea_ := Option.some.inj (hx133_2.symm.trans hx136_2); injection ea_ with ea_ en_ ec_; subst ea_; subst ec_; clear en_; have p137 : 0 ≤ (x5_1 : Int) := of_decide_eq_true (by first | (with_reducible assumption) | assumption); have q137 : x5_1 < (l0.length : Int) := of_decide_eq_true (by first | (with_reducible assumption) | assumption); obtain ⟨ad137, A137_2, c137_2, e137, hx137_0, hx137_1, hx137_2, hl137_2, hi137_2⟩ := at_T54 HR0.out x5_1 p137 q137; obtain rfl : ad132 = ad137 := (by injection e137); have HR137_2 := Aside0.mk hi137_2; have HC137_2 := Aside0.mk hl137_2; clear hi137_2 hl137_2; replace p137 := eq_true p137; replace q137 := eq_true q137; have ea_ := Option.some.inj (hx132_2.symm.trans hx137_2); injection ea_ with ea_ en_ ec_; subst ea_; subst ec_; clear en_; have p138 : 0 ≤ (x5_1 : Int) := of_decide_eq_true (by first | (with_reducible assumption) | assumption); have q138 : x5_1 < (l1.length : Int) := of_decide_eq_true (by first | (with_reducible assumption) | assumption); obtain ⟨ad138, A138_2, c138_2, e138, hx138_0, hx138_1, hx138_2, hl138_2, hi138_2⟩ := at_T54 HR1.out x5_1 p138 q138; obtain rfl : ad133 = ad138 := (by injection e138); have HR138_2 := Aside0.mk hi138_2; have HC138_2 := Aside0.mk hl138_2; clear hi138_2 hl138_2; replace p138 := eq_true p138; replace q138 := eq_true q138; have ea_ := Option.some.inj (hx133_2.symm.trans hx138_2); injection ea_ with ea_ en_ ec_; subst ea_; subst ec_; clear en_)))
                    go_ret
                    exact ⟨by first | rfl | (simp; done) | (simp [*]; done), by repeat (first | exact Drawn0.refl _ | apply Drawn0.step)⟩
                · rw [if_neg c9] at H
                  have c9b0 : (((rd_T54 l0 x5_1).f0) == ((rd_T54 l1 x5_1).f0)) = false := beq_eq_false_iff_ne.mpr c9
                  have c9b1 : (((rd_T54 l0 x5_1).f0) != ((rd_T54 l1 x5_1).f0)) = true := bne_iff_ne.mpr c9
                  obtain rfl := Option.some.inj H
                  have p132 : 0 ≤ (x5_1 : Int) := of_decide_eq_true (by first | (with_reducible assumption) | assumption)
                  have q132 : x5_1 < (l0.length : Int) := of_decide_eq_true (by first | (with_reducible assumption) | assumption)
                  obtain ⟨ad132, A132_2, c132_2, e132, hx132_0, hx132_1, hx132_2, hl132_2, hi132_2⟩ := at_T54 HR0.out x5_1 p132 q132
                  cases e132
                  have HR132_2 := Aside0.mk hi132_2
                  have HC132_2 := Aside0.mk hl132_2
                  clear hi132_2 hl132_2
                  replace p132 := eq_true p132
                  replace q132 := eq_true q132
                  have p133 : 0 ≤ (x5_1 : Int) := of_decide_eq_true (by first | (with_reducible assumption) | assumption)
                  have q133 : x5_1 < (l1.length : Int) := of_decide_eq_true (by first | (with_reducible assumption) | assumption)
                  obtain ⟨ad133, A133_2, c133_2, e133, hx133_0, hx133_1, hx133_2, hl133_2, hi133_2⟩ := at_T54 HR1.out x5_1 p133 q133
                  cases e133
                  have HR133_2 := Aside0.mk hi133_2
                  have HC133_2 := Aside0.mk hl133_2
                  clear hi133_2 hl133_2
                  replace p133 := eq_true p133
                  replace q133 := eq_true q133
                  go_wp2_with (first | (go_at_call 39; (with_reducible refine (selvedgeref05_Ints.calls k1 _ _ ((rd_T54 l0 x5_1).f2) _ _ ((rd_T54 l1 x5_1).f2) true _ ?side1 ?side2 ?side3 ?side4 A7.out).mono ?_); (case side1 => repeat (first | exact HR132_2.out | (with_reducible refine Kd.C_alloc ?_ _) | (with_reducible refine Kd.C_drewN ?_ _) | (with_reducible refine Kd.C_drew ?_))); (case side2 => exact HC132_2.out); (case side3 => repeat (first | exact HR133_2.out | (with_reducible refine Kd.C_alloc ?_ _) | (with_reducible refine Kd.C_drewN ?_ _) | (with_reducible refine Kd.C_drew ?_))); (case side4 => exact HC133_2.out); rintro e w' ⟨rfl, ⟨nd, rfl⟩⟩; (try first | exact ⟨rfl, _, World.drewN_drewN _ _ _⟩ | exact ⟨rfl, _, Eq.trans (World.drewN_drewN _ _ _) (congrArg (World.drewN _) (Nat.add_assoc _ _ _))⟩); have p135 : 0 ≤ (x5_1 : Int) := of_decide_eq_true (by first | (with_reducible assumption) | assumption); have q135 : x5_1 < (l0.length : Int) := of_decide_eq_true (by first | (with_reducible assumption) | assumption); obtain ⟨ad135, A135_2, c135_2, e135, hx135_0, hx135_1, hx135_2, hl135_2, hi135_2⟩ := at_T54 HR0.out x5_1 p135 q135; obtain rfl : ad132 = ad135 := (by injection e135); have HR135_2 := Aside0.mk hi135_2; have HC135_2 := Aside0.mk hl135_2; clear hi135_2 hl135_2; replace p135 := eq_true p135; replace q135 := eq_true q135; have ea_ := Option.some.inj (hx132_2.symm.trans hx135_2); injection ea_ with ea_ en_ ec_; subst ea_; subst ec_; clear en_; have p136 : 0 ≤ (x5_1 : Int) := of_decide_eq_true (by first | (with_reducible assumption) | assumption); have q136 : x5_1 < (l1.length : Int) := of_decide_eq_true (by first | (with_reducible assumption) | assumption); obtain ⟨ad136, A136_2, c136_2, e136, hx136_0, hx136_1, hx136_2, hl136_2, hi136_2⟩ := at_T54 HR1.out x5_1 p136 q136; obtain rfl : ad133 = ad136 := (by injection e136); have HR136_2 := Aside0.mk hi136_2; have HC136_2 := Aside0.mk hl136_2; clear hi136_2 hl136_2; replace p136 := eq_true p136; replace q136 := eq_true q136; have ea_ := Option.some.inj (hx133_2.symm.trans hx136_2); injection ea_ with ea_ en_ ec_; subst ea_; subst ec_; clear en_))
                  (try simp only [Act.put, List.setIfInBounds_toArray, List.set_cons_zero, List.set_cons_succ])
                  repeat (go_quiet (first | (go_at_call 39; (with_reducible refine (selvedgeref05_Ints.calls k1 _ _ ((rd_T54 l0 x5_1).f2) _ _ ((rd_T54 l1 x5_1).f2) true _ ?side1 ?side2 ?side3 ?side4 A7.out).mono ?_); (case side1 => repeat (first | exact HR132_2.out | (with_reducible refine Kd.C_alloc ?_ _) | (with_reducible refine Kd.C_drewN ?_ _) | (with_reducible refine Kd.C_drew ?_))); (case side2 => exact HC132_2.out); (case side3 => repeat (first | exact HR133_2.out | (with_reducible refine Kd.C_alloc ?_ _) | (with_reducible refine Kd.C_drewN ?_ _) | (with_reducible refine Kd.C_drew ?_))); (case side4 => exact HC133_2.out); rintro e w' ⟨rfl, ⟨nd, rfl⟩⟩; (try first | exact ⟨rfl, _, World.drewN_drewN _ _ _⟩ | exact ⟨rfl, _, Eq.trans (World.drewN_drewN _ _ _) (congrArg (World.drewN _) (Nat.add_assoc _ _ _))⟩); have p135 : 0 ≤ (x5_1 : Int) := of_decide_eq_true (by first | (with_reducible assumption) | assumption); have q135 : x5_1 < (l0.length : Int) := of_decide_eq_true (by first | (with_reducible assumption) | assumption); obtain ⟨ad135, A135_2, c135_2, e135, hx135_0, hx135_1, hx135_2, hl135_2, hi135_2⟩ := at_T54 HR0.out x5_1 p135 q135; obtain rfl : ad132 = ad135 := (by injection e135); have HR135_2 := Aside0.mk hi135_2; have HC135_2 := Aside0.mk hl135_2; clear hi135_2 hl135_2; replace p135 := eq_true p135; replace q135 := eq_true q135; have ea_ := Option.some.inj (hx132_2.symm.trans hx135_2); injection ea_ with ea_ en_ ec_; subst ea_; subst ec_; clear en_; have p136 : 0 ≤ (x5_1 : Int) := of_decide_eq_true (by first | (with_reducible assumption) | assumption); have q136 : x5_1 < (l1.length : Int) := of_decide_eq_true (by first | (with_reducible assumption) | assumption); obtain ⟨ad136, A136_2, c136_2, e136, hx136_0, hx136_1, hx136_2, hl136_2, hi136_2⟩ := at_T54 HR1.out x5_1 p136 q136; obtain rfl : ad133 = ad136 := (by injection e136); have HR136_2 := Aside0.mk hi136_2; have HC136_2 := Aside0.mk hl136_2; clear hi136_2 hl136_2; replace p136 := eq_true p136; replace q136 := eq_true q136; have ea_ := Option.some.inj (hx133_2.symm.trans hx136_2); injection ea_ with ea_ en_ ec_; subst ea_; subst ec_; clear en_)); try go_wp2_with (first | (go_at_call 39; (with_reducible refine (selvedgeref05_Ints.calls k1 _ _ ((rd_T54 l0 x5_1).f2) _ _ ((rd_T54 l1 x5_1).f2) true _ ?side1 ?side2 ?side3 ?side4 A7.out).mono ?_); (case side1 => repeat (first | exact HR132_2.out | (with_reducible refine Kd.C_alloc ?_ _) | (with_reducible refine Kd.C_drewN ?_ _) | (with_reducible refine Kd.C_drew ?_))); (case side2 => exact HC132_2.out); (case side3 => repeat (first | exact HR133_2.out | (with_reducible refine Kd.C_alloc ?_ _) | (with_reducible refine Kd.C_drewN ?_ _) | (with_reducible refine Kd.C_drew ?_))); (case side4 => exact HC133_2.out); rintro e w' ⟨rfl, ⟨nd, rfl⟩⟩; (try first | exact ⟨rfl, _, World.drewN_drewN _ _ _⟩ | exact ⟨rfl, _, Eq.trans (World.drewN_drewN _ _ _) (congrArg (World.drewN _) (Nat.add_assoc _ _ _))⟩); have p135 : 0 ≤ (x5_1 : Int) := of_decide_eq_true (by first | (with_reducible assumption) | assumption); have q135 : x5_1 < (l0.length : Int) := of_decide_eq_true (by first | (with_reducible assumption) | assumption); obtain ⟨ad135, A135_2, c135_2, e135, hx135_0, hx135_1, hx135_2, hl135_2, hi135_2⟩ := at_T54 HR0.out x5_1 p135 q135; obtain rfl : ad132 = ad135 := (by injection e135); have HR135_2 := Aside0.mk hi135_2; have HC135_2 := Aside0.mk hl135_2; clear hi135_2 hl135_2; replace p135 := eq_true p135; replace q135 := eq_true q135; have ea_ := Option.some.inj (hx132_2.symm.trans hx135_2); injection ea_ with ea_ en_ ec_; subst ea_; subst ec_; clear en_; have p136 : 0 ≤ (x5_1 : Int) := of_decide_eq_true (by first | (with_reducible assumption) | assumption); have q136 : x5_1 < (l1.length : Int) := of_decide_eq_true (by first | (with_reducible assumption) | assumption); obtain ⟨ad136, A136_2, c136_2, e136, hx136_0, hx136_1, hx136_2, hl136_2, hi136_2⟩ := at_T54 HR1.out x5_1 p136 q136; obtain rfl : ad133 = ad136 := (by injection e136); have HR136_2 := Aside0.mk hi136_2; have HC136_2 := Aside0.mk hl136_2; clear hi136_2 hl136_2; replace p136 := eq_true p136; replace q136 := eq_true q136; have ea_ := Option.some.inj (hx133_2.symm.trans hx136_2); injection ea_ with ea_ en_ ec_; subst ea_; subst ec_; clear en_)))
                  go_ret
                  exact ⟨by first | rfl | (simp; done) | (simp [*]; done), by repeat (first | exact Drawn0.refl _ | apply Drawn0.step)⟩
              · replace c8 := Bool.eq_false_iff.mpr c8
                subst c8
                have H1 : (some false) = some r := by rw [if_neg (show ¬ (false = true) by decide)] at H; exact H
                clear H
                have H := H1
                clear H1
                obtain rfl := Option.some.inj H
                have p132 : 0 ≤ (x5_1 : Int) := of_decide_eq_true (by first | (with_reducible assumption) | assumption)
                have q132 : x5_1 < (l0.length : Int) := of_decide_eq_true (by first | (with_reducible assumption) | assumption)
                obtain ⟨ad132, A132_2, c132_2, e132, hx132_0, hx132_1, hx132_2, hl132_2, hi132_2⟩ := at_T54 HR0.out x5_1 p132 q132
                cases e132
                have HR132_2 := Aside0.mk hi132_2
                have HC132_2 := Aside0.mk hl132_2
                clear hi132_2 hl132_2
                replace p132 := eq_true p132
                replace q132 := eq_true q132
                have p133 : 0 ≤ (x5_1 : Int) := of_decide_eq_true (by first | (with_reducible assumption) | assumption)
                have q133 : x5_1 < (l1.length : Int) := of_decide_eq_true (by first | (with_reducible assumption) | assumption)
                obtain ⟨ad133, A133_2, c133_2, e133, hx133_0, hx133_1, hx133_2, hl133_2, hi133_2⟩ := at_T54 HR1.out x5_1 p133 q133
                cases e133
                have HR133_2 := Aside0.mk hi133_2
                have HC133_2 := Aside0.mk hl133_2
                clear hi133_2 hl133_2
                replace p133 := eq_true p133
                replace q133 := eq_true q133
                go_wp2_with (first | (go_at_call 39; (with_reducible refine (selvedgeref05_Ints.calls k1 _ _ ((rd_T54 l0 x5_1).f2) _ _ ((rd_T54 l1 x5_1).f2) false _ ?side1 ?side2 ?side3 ?side4 A7.out).mono ?_); (case side1 => repeat (first | exact HR132_2.out | (with_reducible refine Kd.C_alloc ?_ _) | (with_reducible refine Kd.C_drewN ?_ _) | (with_reducible refine Kd.C_drew ?_))); (case side2 => exact HC132_2.out); (case side3 => repeat (first | exact HR133_2.out | (with_reducible refine Kd.C_alloc ?_ _) | (with_reducible refine Kd.C_drewN ?_ _) | (with_reducible refine Kd.C_drew ?_))); (case side4 => exact HC133_2.out); rintro e w' ⟨rfl, ⟨nd, rfl⟩⟩; (try first | exact ⟨rfl, _, World.drewN_drewN _ _ _⟩ | exact ⟨rfl, _, Eq.trans (World.drewN_drewN _ _ _) (congrArg (World.drewN _) (Nat.add_assoc _ _ _))⟩)))
                (try simp only [Act.put, List.setIfInBounds_toArray, List.set_cons_zero, List.set_cons_succ])
                repeat (go_quiet (first | (go_at_call 39; (with_reducible refine (selvedgeref05_Ints.calls k1 _ _ ((rd_T54 l0 x5_1).f2) _ _ ((rd_T54 l1 x5_1).f2) false _ ?side1 ?side2 ?side3 ?side4 A7.out).mono ?_); (case side1 => repeat (first | exact HR132_2.out | (with_reducible refine Kd.C_alloc ?_ _) | (with_reducible refine Kd.C_drewN ?_ _) | (with_reducible refine Kd.C_drew ?_))); (case side2 => exact HC132_2.out); (case side3 => repeat (first | exact HR133_2.out | (with_reducible refine Kd.C_alloc ?_ _) | (with_reducible refine Kd.C_drewN ?_ _) | (with_reducible refine Kd.C_drew ?_))); (case side4 => exact HC133_2.out); rintro e w' ⟨rfl, ⟨nd, rfl⟩⟩; (try first | exact ⟨rfl, _, World.drewN_drewN _ _ _⟩ | exact ⟨rfl, _, Eq.trans (World.drewN_drewN _ _ _) (congrArg (World.drewN _) (Nat.add_assoc _ _ _))⟩))); try go_wp2_with (first | (go_at_call 39; (with_reducible refine (selvedgeref05_Ints.calls k1 _ _ ((rd_T54 l0 x5_1).f2) _ _ ((rd_T54 l1 x5_1).f2) false _ ?side1 ?side2 ?side3 ?side4 A7.out).mono ?_); (case side1 => repeat (first | exact HR132_2.out | (with_reducible refine Kd.C_alloc ?_ _) | (with_reducible refine Kd.C_drewN ?_ _) | (with_reducible refine Kd.C_drew ?_))); (case side2 => exact HC132_2.out); (case side3 => repeat (first | exact HR133_2.out | (with_reducible refine Kd.C_alloc ?_ _) | (with_reducible refine Kd.C_drewN ?_ _) | (with_reducible refine Kd.C_drew ?_))); (case side4 => exact HC133_2.out); rintro e w' ⟨rfl, ⟨nd, rfl⟩⟩; (try first | exact ⟨rfl, _, World.drewN_drewN _ _ _⟩ | exact ⟨rfl, _, Eq.trans (World.drewN_drewN _ _ _) (congrArg (World.drewN _) (Nat.add_assoc _ _ _))⟩))))
                go_ret
                exact ⟨by first | rfl | (simp; done) | (simp [*]; done), by repeat (first | exact Drawn0.refl _ | apply Drawn0.step)⟩
            · rw [if_neg c6] at H
              exact absurd H (by simp)
          · rw [if_neg c5] at H
            exact absurd H (by simp)
        · rw [if_neg c4] at H
          have c4b0 : decide (x5_1 < (l0.length : Int)) = false := decide_eq_false c4
          clear c4
          obtain rfl := Option.some.inj H
          go_wp2
          repeat (go_quiet (fail); try go_wp2)
          go_ret
          exact ⟨by first | rfl | (simp; done) | (simp [*]; done), by repeat (first | exact Drawn0.refl _ | apply Drawn0.step)⟩
  · rw [if_neg c3] at H
    have c3b0 : ((l0.length : Int) == (l1.length : Int)) = false := beq_eq_false_iff_ne.mpr c3
    have c3b1 : ((l0.length : Int) != (l1.length : Int)) = true := bne_iff_ne.mpr c3
    have c3b2 : (l0.length == l1.length) = false := by first | simpa using c3 | (simp at c3 ⊢; omega)
    obtain rfl := Option.some.inj H
    go_enter Try.func18, Try.ntmps18
    go_wp2
    repeat (go_quiet (fail); try go_wp2)
    go_ret
    exact ⟨by first | rfl | (simp; done) | (simp [*]; done), by repeat (first | exact Drawn0.refl _ | apply Drawn0.step)⟩

/-! ### selvedgeref14_mark: function 49 -/
def selvedgeref14_mark.l0 : Nat → List (S54) → Int → Int → Option (Int × Int × List Int × Int)
  | 0, _, _, _ => none
  | k + 1, x0, x1, x6 => if x6 < (x0.length : Int) then (if 0 ≤ x6 then (if ((rd_T54 x0 x6).f0) = x1 then (some ((rd_T54 x0 x6).f0, (rd_T54 x0 x6).f1, (rd_T54 x0 x6).f2, x6)) else (selvedgeref14_mark.l0 k x0 x1 (wrap64 (x6 + 1)))) else (none)) else (some (x1, 0, ([] : List Int), (-1)))
def selvedgeref14_mark.f (k : Nat) (l0 : List (S54)) (a1 : Int) : Option (Int × Int × List Int × Int) := selvedgeref14_mark.l0 k l0 a1 0
theorem selvedgeref14_mark.mono_l : ∀ k, (∀ y0 y1 y2, LeO (selvedgeref14_mark.l0 k y0 y1 y2) (selvedgeref14_mark.l0 (k + 1) y0 y1 y2))
  | 0 => fun _ _ _ r h => by simp [selvedgeref14_mark.l0] at h
  | k + 1 => by
    have ih0 := selvedgeref14_mark.mono_l k
    · intro y0 y1 y2
      unfold selvedgeref14_mark.l0
      repeat' first
      | (with_reducible exact ih0 _ _ _)
      | (with_reducible exact LeO.refl _)
      | (with_reducible exact LeO.none _)
      | (with_reducible refine LeO.ite ?_ ?_)
      | (with_reducible refine LeO.bind ?_ (fun _ => ?_))
      | exact ih0 _ _ _
      | exact LeO.none _
      | refine LeO.ite ?_ ?_
      | refine LeO.bind ?_ (fun _ => ?_)
theorem selvedgeref14_mark.mono : ∀ a0 a1 k, LeO (selvedgeref14_mark.f k a0 a1) (selvedgeref14_mark.f (k + 1) a0 a1) := by
  intro a0 a1 k
  have ih0 := selvedgeref14_mark.mono_l k
  unfold selvedgeref14_mark.f
  repeat' first
      | (with_reducible exact ih0 _ _ _)
      | (with_reducible exact LeO.refl _)
      | (with_reducible exact LeO.none _)
      | (with_reducible refine LeO.ite ?_ ?_)
      | (with_reducible refine LeO.bind ?_ (fun _ => ?_))
      | exact ih0 _ _ _
      | exact LeO.none _
      | refine LeO.ite ?_ ?_
      | refine LeO.bind ?_ (fun _ => ?_)
set_option maxHeartbeats 8000000 in
set_option maxRecDepth 100000 in
theorem selvedgeref14_mark.calls (k : Nat) (P0_ : Nat → Prop) (A0 : Option Addr) (c0 : Nat) (l0 : List (S54)) (a1 : Int) (r1 : Int) (r2 : Int) (r3 : List Int) (r4 : Int) (w : World) (hs0 : Kd.V k54 54 w w.heap.size (fun k_ => P0_ k_) (.slice A0 l0.length c0) l0) (h : selvedgeref14_mark.f k l0 a1 = some (r1, r2, r3, r4)) :
    Calls Try.prog 49 #[.slice A0 l0.length c0, .int .i64 a1] w fun e w' => ∃ v2_ : Value, e = .returned (.tuple #[.agg #[.int .i64 r1, .int .i64 r2, v2_], .int .i64 r4]) ∧ Kd.V (Kd.int .i64) 3 w' w.heap.size (fun k_ => (P0_ k_ ∨ w.heap.size ≤ k_)) v2_ r3 ∧ Below w.heap.size w w' := by
  have hu54 := Try.underlying54
  have HO0 := Aside0.mk (show Kd.V k54 54 w w.heap.size (fun k_ => (P0_ k_ ∨ w.heap.size ≤ k_)) (.slice A0 l0.length c0) l0 from Kd.V_mono hs0 (fun k_ hk => .inl hk))
  have HB := Aside0.mk (Below.refl w.heap.size w)
  have H : (selvedgeref14_mark.l0 k l0 a1 0) = some (r1, r2, r3, r4) := h
  clear h
  have H' := Aside0.mk H
  clear H
  go_enter Try.func49, Try.ntmps49
  go_wp2_with (first | ((with_reducible refine gate_dst (N := 4) rfl ?_); refine box_event ?hg (N := 4) ?hd (cs := #[.int .i64 0, .int .i64 0, .slice none 0 0]) (t := 54) ?hr ?_; (case hd => rfl); (case hg => rfl); (case hr => first | (go_simp; done) | (go_simp; rfl)); intro gb139 hg w3 hbox hb; have n0_ := Aside0.mk (Kd.V_below (Kd.V_elderB (by (with_reducible repeat (first | apply Kd.V_alloc | apply Kd.V_drewN | apply Kd.V_drew)); exact HO0.out) gb139 (Nat.le_of_eq hg.symm)) hb); have n1_ := Aside0.mk (below_step (by repeat (first | (with_reducible first | exact HB.out | apply below_alloc | apply pw_below_drewN | apply below_drew1) | exact HB.out)) hb); have n2_ := Aside0.mk (hbox); have n3_ := Aside0.mk ((by rw [hg]; exact (below_size (by repeat (first | (with_reducible first | exact HB.out | apply below_alloc | apply pw_below_drewN | apply below_drew1) | exact HB.out))) : w.heap.size ≤ gb139)); have n4_ := Aside0.mk ((by rw [hg]; exact (below_size (by repeat (first | (with_reducible first | exact HB.out | apply below_alloc | apply pw_below_drewN | apply below_drew1) | exact HB.out))) : w.heap.size ≤ gb139)); clear HO0; clear HB; have HO0 := n0_; have HB := n1_; have BK139 := n2_; have GW139 := n3_; have GE139 := n4_; clear n0_ n1_ n2_ n3_ n4_; clear hb hbox hg))
  go_loopg [6] k (fun kq v6 w' => ∃ (x6_1 : Int) (x140000_1 : Int) (x140001_1 : Int), v6 = .int .i64 x6_1 ∧ Aside0 (selvedgeref14_mark.l0 kq l0 a1 x6_1 = some (r1, r2, r3, r4)) ∧ Aside0 (kq ≤ k) ∧ Aside0 (Kd.V k54 54 w' w.heap.size (fun k_ => (P0_ k_ ∨ w.heap.size ≤ k_) ∧ k_ ≠ gb139) (.slice A0 l0.length c0) l0) ∧ Aside0 (w'.heap[gb139]? = some (.cells #[.int .i64 x140000_1, .int .i64 x140001_1, (.slice none 0 0)] 54 (0, 0))) ∧ Aside0 (Below w.heap.size w w'))
  case atStart => exact ⟨(0), (0), (0), (by first | rfl | (simp; done) | (simp [*]; done)), H', ⟨Nat.le_refl _⟩, ⟨by (with_reducible repeat (first | apply Kd.V_alloc | apply Kd.V_drewN | apply Kd.V_drew)); exact HO0.out⟩, ⟨by (with_reducible repeat (first | refine blk_drewN ?_ _ | refine blk_drew ?_ | refine blk_alloc ?_ _)); exact BK139.out⟩, ⟨by repeat (first | (with_reducible first | exact HB.out | apply below_alloc | apply pw_below_drewN | apply below_drew1 | refine below_set ?_ GE139.out) | exact HB.out)⟩⟩
  case round =>
    clear H'
    try clear p2
    obtain ⟨x6_1, x140000_1, x140001_1, rfl, HA, HK1, HO_0, BK139, HB⟩ := hrel
    cases gk with
    | zero => exact absurd HA.out (by simp [selvedgeref14_mark.l0])
    | succ k1 =>
      have H := HA.out
      clear HA
      simp only [selvedgeref14_mark.l0] at H
      by_cases c4 : x6_1 < (l0.length : Int)
      · rw [if_pos c4] at H
        have c4b0 : decide (x6_1 < (l0.length : Int)) = true := decide_eq_true c4
        clear c4
        by_cases c5 : 0 ≤ x6_1
        · rw [if_pos c5] at H
          have c5b0 : decide (0 ≤ x6_1) = true := decide_eq_true c5
          clear c5
          by_cases c6 : ((rd_T54 l0 x6_1).f0) = a1
          · rw [if_pos c6] at H
            have c6b0 : (((rd_T54 l0 x6_1).f0) == a1) = true := beq_iff_eq.mpr c6
            have c6b1 : (((rd_T54 l0 x6_1).f0) != a1) = false := bne_eq_false_iff_eq.mpr c6
            clear c6
            simp only [Option.some.injEq, Prod.mk.injEq] at H
            obtain ⟨rfl, rfl, rfl, rfl⟩ := H
            have p140 : 0 ≤ (x6_1 : Int) := of_decide_eq_true (by first | (with_reducible assumption) | assumption)
            have q140 : x6_1 < (l0.length : Int) := of_decide_eq_true (by first | (with_reducible assumption) | assumption)
            obtain ⟨ad140, A140_2, c140_2, e140, hx140_0, hx140_1, hx140_2, hl140_2, hi140_2⟩ := at_T54 (Kd.V_reads' HO_0.out).2.2 x6_1 p140 q140
            cases e140
            obtain ⟨ce140, hce140, hMe140, hcc140⟩ := Kd.V_get HO_0.out z54 x6_1 p140 (by first | exact q140 | exact of_decide_eq_true (by first | (with_reducible assumption) | assumption) | (have e_ := (Kd.V_reads' HO_0.out).1; omega))
            obtain ⟨ua140_2, uc140_2, rfl, ul140_2, ge140_2⟩ := k54_openF hMe140
            have hv140_2 := hcc140 2 _ rfl
            rw [add_field _ _ 2 (by omega)] at hv140_2
            replace hv140_2 := Option.some.inj (hv140_2.symm.trans hx140_2)
            injection hv140_2 with hva_ hvn_ hvc_
            rw [hva_] at ge140_2
            rw [hvc_] at ul140_2
            have HL140_2 := Aside0.mk (show Kd.V (Kd.int .i64) 3 _ w.heap.size _ _ ((rd_T54 l0 x6_1).f2) from Kd.V_mk ul140_2 ge140_2)
            clear hva_ hvn_ hvc_ ge140_2 ul140_2
            clear hcc140 hce140
            have HR140_2 := Aside0.mk hi140_2
            have HC140_2 := Aside0.mk hl140_2
            clear hi140_2 hl140_2
            replace p140 := eq_true p140
            replace q140 := eq_true q140
            have p141 : 0 ≤ (x6_1 : Int) := of_decide_eq_true (by first | (with_reducible assumption) | assumption)
            have q141 : x6_1 < (l0.length : Int) := of_decide_eq_true (by first | (with_reducible assumption) | assumption)
            obtain ⟨ad141, A141_2, c141_2, e141, hx141_0, hx141_1, hx141_2, hl141_2, hi141_2⟩ := at_T54 (Kd.V_reads' HO_0.out).2.2 x6_1 p141 q141
            obtain rfl : ad140 = ad141 := (by injection e141)
            obtain ⟨ce141, hce141, hMe141, hcc141⟩ := Kd.V_get HO_0.out z54 x6_1 p141 (by first | exact q141 | exact of_decide_eq_true (by first | (with_reducible assumption) | assumption) | (have e_ := (Kd.V_reads' HO_0.out).1; omega))
            obtain ⟨ua141_2, uc141_2, rfl, ul141_2, ge141_2⟩ := k54_openF hMe141
            have hv141_2 := hcc141 2 _ rfl
            rw [add_field _ _ 2 (by omega)] at hv141_2
            replace hv141_2 := Option.some.inj (hv141_2.symm.trans hx141_2)
            injection hv141_2 with hva_ hvn_ hvc_
            rw [hva_] at ge141_2
            rw [hvc_] at ul141_2
            have HL141_2 := Aside0.mk (show Kd.V (Kd.int .i64) 3 _ w.heap.size _ _ ((rd_T54 l0 x6_1).f2) from Kd.V_mk ul141_2 ge141_2)
            clear hva_ hvn_ hvc_ ge141_2 ul141_2
            clear hcc141 hce141
            have HR141_2 := Aside0.mk hi141_2
            have HC141_2 := Aside0.mk hl141_2
            clear hi141_2 hl141_2
            replace p141 := eq_true p141
            replace q141 := eq_true q141
            have ea_ := Option.some.inj (hx140_2.symm.trans hx141_2)
            injection ea_ with ea_ en_ ec_
            subst ea_
            subst ec_
            clear en_
            have hcz7_0 : wr.cell? ⟨gb139, 0, none⟩ = some (.int .i64 x140000_1) := (blk_cell BK139.out 0).trans rfl
            have hcz7_1 : wr.cell? ⟨gb139, 1, none⟩ = some (.int .i64 x140001_1) := (blk_cell BK139.out 1).trans rfl
            have hcz7_2 : wr.cell? ⟨gb139, 2, none⟩ = some (.slice none 0 0) := (blk_cell BK139.out 2).trans rfl
            have hfz7_0 := blk_frozen BK139.out 0
            have hfz7_1 := blk_frozen BK139.out 1
            have hfz7_2 := blk_frozen BK139.out 2
            go_wp2
            refine bodyPost_ret (results_ct rfl _ _ gb139 54 #[.int .i64 ((rd_T54 l0 x6_1).f0), .int .i64 ((rd_T54 l0 x6_1).f1), .slice A140_2 ((rd_T54 l0 x6_1).f2).length c140_2] (0, 0) _ rfl (by (with_reducible repeat (first | refine blk_drewN ?_ _ | refine blk_drew ?_ | refine blk_alloc ?_ _)); refine blk_put (cs := #[.int .i64 ((rd_T54 l0 x6_1).f0), .int .i64 ((rd_T54 l0 x6_1).f1), .slice none 0 0]) ?_ 2 _ rfl; (with_reducible repeat (first | refine blk_drewN ?_ _ | refine blk_drew ?_ | refine blk_alloc ?_ _)); refine blk_put (cs := #[.int .i64 ((rd_T54 l0 x6_1).f0), .int .i64 x140001_1, .slice none 0 0]) ?_ 1 _ rfl; (with_reducible repeat (first | refine blk_drewN ?_ _ | refine blk_drew ?_ | refine blk_alloc ?_ _)); refine blk_put (cs := #[.int .i64 x140000_1, .int .i64 x140001_1, .slice none 0 0]) ?_ 0 _ rfl; (with_reducible repeat (first | refine blk_drewN ?_ _ | refine blk_drew ?_ | refine blk_alloc ?_ _)); exact BK139.out) Try.underlying54 rfl (by kernel_rfl)) rfl ?_
            exact ⟨_, by first | rfl | (simp [errW_none, errW_some] <;> rfl) | (simp [*, errW_none, errW_some] <;> rfl), by (with_reducible repeat (first | apply Kd.V_alloc | apply Kd.V_drewN | apply Kd.V_drew)); exact Kd.V_mono (Kd.V_far (p := ⟨gb139, 2, none⟩) (Kd.V_far (p := ⟨gb139, 1, none⟩) (Kd.V_far (p := ⟨gb139, 0, none⟩) (Kd.V_mono HL141_2.out (fun k_ hk => (⟨hk, hk.2⟩ : _ ∧ k_ ≠ gb139))) (fun _ hk => hk.2) (.int .i64 ((rd_T54 l0 x6_1).f0))) (fun _ hk => hk.2) (.int .i64 ((rd_T54 l0 x6_1).f1))) (fun _ hk => hk.2) (.slice A140_2 ((rd_T54 l0 x6_1).f2).length c140_2)) (fun _ hk => hk.1.1), by repeat (first | (with_reducible first | exact HB.out | apply below_alloc | apply pw_below_drewN | apply below_drew1 | refine below_set ?_ GE139.out) | exact HB.out)⟩
          · rw [if_neg c6] at H
            have c6b0 : (((rd_T54 l0 x6_1).f0) == a1) = false := beq_eq_false_iff_ne.mpr c6
            have c6b1 : (((rd_T54 l0 x6_1).f0) != a1) = true := bne_iff_ne.mpr c6
            have H' := Aside0.mk H
            clear H
            have p140 : 0 ≤ (x6_1 : Int) := of_decide_eq_true (by first | (with_reducible assumption) | assumption)
            have q140 : x6_1 < (l0.length : Int) := of_decide_eq_true (by first | (with_reducible assumption) | assumption)
            obtain ⟨ad140, A140_2, c140_2, e140, hx140_0, hx140_1, hx140_2, hl140_2, hi140_2⟩ := at_T54 (Kd.V_reads' HO_0.out).2.2 x6_1 p140 q140
            cases e140
            obtain ⟨ce140, hce140, hMe140, hcc140⟩ := Kd.V_get HO_0.out z54 x6_1 p140 (by first | exact q140 | exact of_decide_eq_true (by first | (with_reducible assumption) | assumption) | (have e_ := (Kd.V_reads' HO_0.out).1; omega))
            obtain ⟨ua140_2, uc140_2, rfl, ul140_2, ge140_2⟩ := k54_openF hMe140
            have hv140_2 := hcc140 2 _ rfl
            rw [add_field _ _ 2 (by omega)] at hv140_2
            replace hv140_2 := Option.some.inj (hv140_2.symm.trans hx140_2)
            injection hv140_2 with hva_ hvn_ hvc_
            rw [hva_] at ge140_2
            rw [hvc_] at ul140_2
            have HL140_2 := Aside0.mk (show Kd.V (Kd.int .i64) 3 _ w.heap.size _ _ ((rd_T54 l0 x6_1).f2) from Kd.V_mk ul140_2 ge140_2)
            clear hva_ hvn_ hvc_ ge140_2 ul140_2
            clear hcc140 hce140
            have HR140_2 := Aside0.mk hi140_2
            have HC140_2 := Aside0.mk hl140_2
            clear hi140_2 hl140_2
            replace p140 := eq_true p140
            replace q140 := eq_true q140
            go_wp2
            go_roundg k1
            case measure => have := HK1.out; omega
            case rel => exact ⟨(wrap64 (x6_1 + 1)), (x140000_1), (x140001_1), (by first | rfl | (simp; done) | (simp [*]; done)), H', ⟨by have := HK1.out; omega⟩, ⟨by (with_reducible repeat (first | apply Kd.V_alloc | apply Kd.V_drewN | apply Kd.V_drew)); exact HO_0.out⟩, ⟨by (with_reducible repeat (first | refine blk_drewN ?_ _ | refine blk_drew ?_ | refine blk_alloc ?_ _)); exact BK139.out⟩, ⟨by repeat (first | (with_reducible first | exact HB.out | apply below_alloc | apply pw_below_drewN | apply below_drew1 | refine below_set ?_ GE139.out) | exact HB.out)⟩⟩
        · rw [if_neg c5] at H
          exact absurd H (by simp)
      · rw [if_neg c4] at H
        have c4b0 : decide (x6_1 < (l0.length : Int)) = false := decide_eq_false c4
        clear c4
        simp only [Option.some.injEq, Prod.mk.injEq] at H
        obtain ⟨rfl, rfl, rfl, rfl⟩ := H
        have hcz8_0 : wr.cell? ⟨gb139, 0, none⟩ = some (.int .i64 x140000_1) := (blk_cell BK139.out 0).trans rfl
        have hcz8_1 : wr.cell? ⟨gb139, 1, none⟩ = some (.int .i64 x140001_1) := (blk_cell BK139.out 1).trans rfl
        have hcz8_2 : wr.cell? ⟨gb139, 2, none⟩ = some (.slice none 0 0) := (blk_cell BK139.out 2).trans rfl
        have hfz8_0 := blk_frozen BK139.out 0
        have hfz8_1 := blk_frozen BK139.out 1
        have hfz8_2 := blk_frozen BK139.out 2
        go_wp2
        refine bodyPost_ret (results_ct rfl _ _ gb139 54 #[.int .i64 a1, .int .i64 0, .slice none 0 0] (0, 0) _ rfl (by (with_reducible repeat (first | refine blk_drewN ?_ _ | refine blk_drew ?_ | refine blk_alloc ?_ _)); refine blk_put (cs := #[.int .i64 a1, .int .i64 0, .slice none 0 0]) ?_ 2 _ rfl; (with_reducible repeat (first | refine blk_drewN ?_ _ | refine blk_drew ?_ | refine blk_alloc ?_ _)); refine blk_put (cs := #[.int .i64 a1, .int .i64 x140001_1, .slice none 0 0]) ?_ 1 _ rfl; (with_reducible repeat (first | refine blk_drewN ?_ _ | refine blk_drew ?_ | refine blk_alloc ?_ _)); refine blk_put (cs := #[.int .i64 x140000_1, .int .i64 x140001_1, .slice none 0 0]) ?_ 0 _ rfl; (with_reducible repeat (first | refine blk_drewN ?_ _ | refine blk_drew ?_ | refine blk_alloc ?_ _)); exact BK139.out) Try.underlying54 rfl (by kernel_rfl)) rfl ?_
        exact ⟨_, by first | rfl | (simp [errW_none, errW_some] <;> rfl) | (simp [*, errW_none, errW_some] <;> rfl), Kd.V_nil _ _ _ _ _, by repeat (first | (with_reducible first | exact HB.out | apply below_alloc | apply pw_below_drewN | apply below_drew1 | refine below_set ?_ GE139.out) | exact HB.out)⟩

/-! ### selvedgeref14_Fresh: function 22 -/
mutual
def selvedgeref14_Fresh.j0 : Nat → List (S54) → Int → Int → Bool → Option (Bool)
  | 0, _, _, _, _ => none
  | k + 1, x0, x1, x2, x15 => if x15 = true then (some false) else ((selvedgeref14_mark.f k x0 x1).bind fun bt142 => (selvedgeref14_Fresh.l0 k x2 0 bt142.1 bt142.2.1 bt142.2.2.1))
def selvedgeref14_Fresh.l0 : Nat → Int → Int → Int → Int → List Int → Option (Bool)
  | 0, _, _, _, _, _ => none
  | k + 1, x2, x9, x149000, x149001, x149002 => if x9 < (x149002.length : Int) then (if 0 ≤ x9 then (if (rd x149002 x9) = x2 then (some false) else (selvedgeref14_Fresh.l0 k x2 (wrap64 (x9 + 1)) x149000 x149001 x149002)) else (none)) else (if x2 > x149001 then (some (decide ((wrap64 (x2 - 8)) ≤ x149001))) else (some false))
end
def selvedgeref14_Fresh.f (k : Nat) (l0 : List (S54)) (a1 : Int) (a2 : Int) : Option (Bool) := if a1 < 1 then (selvedgeref14_Fresh.j0 k l0 a1 a2 true) else (selvedgeref14_Fresh.j0 k l0 a1 a2 (decide (a1 > 64)))
theorem selvedgeref14_Fresh.mono_l : ∀ k, (∀ y0 y1 y2 y3, LeO (selvedgeref14_Fresh.j0 k y0 y1 y2 y3) (selvedgeref14_Fresh.j0 (k + 1) y0 y1 y2 y3)) ∧ (∀ y0 y1 y2 y3 y4, LeO (selvedgeref14_Fresh.l0 k y0 y1 y2 y3 y4) (selvedgeref14_Fresh.l0 (k + 1) y0 y1 y2 y3 y4))
  | 0 => ⟨fun _ _ _ _ r h => by simp [selvedgeref14_Fresh.j0] at h, fun _ _ _ _ _ r h => by simp [selvedgeref14_Fresh.l0] at h⟩
  | k + 1 => by
    obtain ⟨ih0, ih1⟩ := selvedgeref14_Fresh.mono_l k
    refine ⟨?_, ?_⟩
    · intro y0 y1 y2 y3
      unfold selvedgeref14_Fresh.j0
      repeat' first
      | (with_reducible exact ih0 _ _ _ _)
      | (with_reducible exact ih1 _ _ _ _ _)
      | (with_reducible exact selvedgeref14_mark.mono _ _ _)
      | (with_reducible exact LeO.refl _)
      | (with_reducible exact LeO.none _)
      | (with_reducible refine LeO.ite ?_ ?_)
      | (with_reducible refine LeO.bind ?_ (fun _ => ?_))
      | exact ih0 _ _ _ _
      | exact ih1 _ _ _ _ _
      | exact selvedgeref14_mark.mono _ _ _
      | exact LeO.none _
      | refine LeO.ite ?_ ?_
      | refine LeO.bind ?_ (fun _ => ?_)
    · intro y0 y1 y2 y3 y4
      unfold selvedgeref14_Fresh.l0
      repeat' first
      | (with_reducible exact ih0 _ _ _ _)
      | (with_reducible exact ih1 _ _ _ _ _)
      | (with_reducible exact selvedgeref14_mark.mono _ _ _)
      | (with_reducible exact LeO.refl _)
      | (with_reducible exact LeO.none _)
      | (with_reducible refine LeO.ite ?_ ?_)
      | (with_reducible refine LeO.bind ?_ (fun _ => ?_))
      | exact ih0 _ _ _ _
      | exact ih1 _ _ _ _ _
      | exact selvedgeref14_mark.mono _ _ _
      | exact LeO.none _
      | refine LeO.ite ?_ ?_
      | refine LeO.bind ?_ (fun _ => ?_)
theorem selvedgeref14_Fresh.mono : ∀ a0 a1 a2 k, LeO (selvedgeref14_Fresh.f k a0 a1 a2) (selvedgeref14_Fresh.f (k + 1) a0 a1 a2) := by
  intro a0 a1 a2 k
  obtain ⟨ih0, ih1⟩ := selvedgeref14_Fresh.mono_l k
  unfold selvedgeref14_Fresh.f
  repeat' first
      | (with_reducible exact ih0 _ _ _ _)
      | (with_reducible exact ih1 _ _ _ _ _)
      | (with_reducible exact selvedgeref14_mark.mono _ _ _)
      | (with_reducible exact LeO.refl _)
      | (with_reducible exact LeO.none _)
      | (with_reducible refine LeO.ite ?_ ?_)
      | (with_reducible refine LeO.bind ?_ (fun _ => ?_))
      | exact ih0 _ _ _ _
      | exact ih1 _ _ _ _ _
      | exact selvedgeref14_mark.mono _ _ _
      | exact LeO.none _
      | refine LeO.ite ?_ ?_
      | refine LeO.bind ?_ (fun _ => ?_)
set_option maxHeartbeats 8000000 in
set_option maxRecDepth 100000 in
theorem selvedgeref14_Fresh.calls (k : Nat) (A0 : Option Addr) (c0 : Nat) (l0 : List (S54)) (a1 : Int) (a2 : Int) (r : Bool) (w : World) (hr0 : Kd.C k54 w A0 l0.length l0) (hc0 : l0.length ≤ c0) (h : selvedgeref14_Fresh.f k l0 a1 a2 = some r) :
    Calls Try.prog 22 #[.slice A0 l0.length c0, .int .i64 a1, .int .i64 a2] w fun e w' => e = .returned (.bool r) ∧ Below w.heap.size w w' := by
  have hu54 := Try.underlying54
  have HR0 := Aside0.mk hr0
  have HC0 := Aside0.mk hc0
  clear hr0 hc0
  have HB := Aside0.mk (Below.refl w.heap.size w)
  have H : (if a1 < 1 then (selvedgeref14_Fresh.j0 k l0 a1 a2 true) else (selvedgeref14_Fresh.j0 k l0 a1 a2 (decide (a1 > 64)))) = some r := h
  clear h
  have HC4 := Aside0.mk H
  clear H
  go_enter Try.func22, Try.ntmps22
  go_upto_region 1 with (fail)
  go_cut [15] (fun v15 wc => ∃ (kq : Nat) (x15_3 : Bool), v15 = .bool x15_3 ∧ Aside0 (selvedgeref14_Fresh.j0 kq l0 a1 a2 x15_3 = some r) ∧ Aside0 (kq ≤ k) ∧ Aside0 (Below w.heap.size w wc))
  case first =>
    have H := HC4.out
    clear HC4
    by_cases c5 : a1 < 1
    · rw [if_pos c5] at H
      have c5b0 : decide (a1 < 1) = true := decide_eq_true c5
      clear c5
      (first | rw [c5b0] | (simp only [i64_w, i32_w]; rw [c5b0]) | skip)
      have H' := Aside0.mk H
      clear H
      go_wp2
      go_meet
      case rel => exact ⟨_, (true), (by first | rfl | (simp; done) | (simp [*]; done)), H', ⟨by first | omega | exact Nat.le_refl _⟩, ⟨by repeat (first | (with_reducible first | exact HB.out | apply below_alloc | apply pw_below_drewN | apply below_drew1) | exact HB.out)⟩⟩
    · rw [if_neg c5] at H
      have c5b0 : decide (a1 < 1) = false := decide_eq_false c5
      clear c5
      (first | rw [c5b0] | (simp only [i64_w, i32_w]; rw [c5b0]) | skip)
      have H' := Aside0.mk H
      clear H
      go_wp2
      go_meet
      case rel => exact ⟨_, (decide (a1 > 64)), (by first | rfl | (simp; done) | (simp [*]; done)), H', ⟨by first | omega | exact Nat.le_refl _⟩, ⟨by repeat (first | (with_reducible first | exact HB.out | apply below_alloc | apply pw_below_drewN | apply below_drew1) | exact HB.out)⟩⟩
  case rest =>
    clear HC4
    try clear c2
    try clear p2
    try clear c5
    try clear c5b0
    obtain ⟨kq, x15_3, rfl, HA, HJ3, HB⟩ := hcut
    cases kq with
    | zero => exact absurd HA.out (by simp [selvedgeref14_Fresh.j0])
    | succ kj3 =>
      have H := HA.out
      clear HA
      simp only [selvedgeref14_Fresh.j0] at H
      by_cases c6 : x15_3 = true
      · subst c6
        have H1 : (some false) = some r := by rw [if_pos rfl] at H; exact H
        clear H
        have H := H1
        clear H1
        obtain rfl := Option.some.inj H
        go_wp2
        go_ret
        exact ⟨by first | rfl | (simp [errW_none, errW_some] <;> rfl) | (simp [*, errW_none, errW_some] <;> rfl), by repeat (first | (with_reducible first | exact HB.out | apply below_alloc | apply pw_below_drewN | apply below_drew1) | exact HB.out)⟩
      · replace c6 := Bool.eq_false_iff.mpr c6
        subst c6
        have H1 : ((selvedgeref14_mark.f kj3 l0 a1).bind fun bt142 => (selvedgeref14_Fresh.l0 kj3 a2 0 bt142.1 bt142.2.1 bt142.2.2.1)) = some r := by rw [if_neg (show ¬ (false = true) by decide)] at H; exact H
        clear H
        have H := H1
        clear H1
        replace H := Option.bind_eq_some_iff.mp H
        obtain ⟨⟨t142, t143, t144, t147⟩, A70, H⟩ := H
        replace H : (selvedgeref14_Fresh.l0 kj3 a2 0 t142 t143 t144) = some r := H
        have A7 := Aside0.mk A70
        clear A70
        have H' := Aside0.mk H
        clear H
        go_wp2_with (first | ((with_reducible refine gate_callee (f := 49) rfl ?_); refine goesL_ (some 19) rfl rfl Try.func49 (by kernel_rfl) rfl #[.slice A0 l0.length c0, .int .i64 a1] rfl (by (try simp only [List.map_toArray, List.map_cons, List.map_nil]); first | done | rfl | (simp only [List.length_drop, List.length_take]; rfl)) ?_; (with_reducible refine (selvedgeref14_mark.calls kj3 (fun k_ => k_ < w.heap.size) _ _ l0 a1 t142 t143 t144 t147 _ ?side1 A7.out).mono ?_); (case side1 => exact Kd.V_mk HC0.out (Kd.F_below (Kd.C_F k54_heap HR0.out) (by repeat (first | (with_reducible first | exact HB.out | apply below_alloc | apply pw_below_drewN | apply below_drew1) | exact HB.out)))); rintro e w8 ⟨v145, rfl, ho0, hb⟩; refine ⟨_, rfl, ?_⟩; have n0_ := Aside0.mk (Kd.V_lower (Kd.V_mono (ok' := fun k_ => True) ho0 (fun k_ hk_ => trivial)) (below_size (by repeat (first | (with_reducible first | exact HB.out | apply below_alloc | apply pw_below_drewN | apply below_drew1) | exact HB.out)))); have n1_ := Aside0.mk (below_step (by repeat (first | (with_reducible first | exact HB.out | apply below_alloc | apply pw_below_drewN | apply below_drew1) | exact HB.out)) hb); clear HB; have HO146 := n0_; have HB := n1_; clear n0_ n1_; (try clear hb); (try clear hb2); (try clear hk); (try clear hi); (try clear ho0)) | ((with_reducible refine gate_dst (N := 7) rfl ?_); refine box_event ?hg (N := 7) ?hd (cs := #[.int .i64 0, .int .i64 0, .slice none 0 0]) (t := 54) ?hr ?_; (case hd => rfl); (case hg => rfl); (case hr => first | (go_simp; done) | (go_simp; rfl)); intro gb148 hg w9 hbox hb; have n0_ := Aside0.mk (Kd.V_below (Kd.V_elderB (by (with_reducible repeat (first | apply Kd.V_alloc | apply Kd.V_drewN | apply Kd.V_drew)); exact HO146.out) gb148 (Nat.le_of_eq hg.symm)) hb); have n1_ := Aside0.mk (below_step (by repeat (first | (with_reducible first | exact HB.out | apply below_alloc | apply pw_below_drewN | apply below_drew1) | exact HB.out)) hb); have n2_ := Aside0.mk (hbox); have n3_ := Aside0.mk ((by rw [hg]; exact (below_size (by repeat (first | (with_reducible first | exact HB.out | apply below_alloc | apply pw_below_drewN | apply below_drew1) | exact HB.out))) : w.heap.size ≤ gb148)); have n4_ := Aside0.mk ((by rw [hg]; exact (below_size (by repeat (first | (with_reducible first | exact HB.out | apply below_alloc | apply pw_below_drewN | apply below_drew1) | exact HB.out))) : w.heap.size ≤ gb148)); clear HO146; clear HB; have HO146 := n0_; have HB := n1_; have BK148 := n2_; have GW148 := n3_; have GE148 := n4_; clear n0_ n1_ n2_ n3_ n4_; clear hb hbox hg; have hcz10_0 : w9.cell? ⟨gb148, 0, none⟩ = some (.int .i64 0) := (blk_cell BK148.out 0).trans rfl; have hcz10_1 : w9.cell? ⟨gb148, 1, none⟩ = some (.int .i64 0) := (blk_cell BK148.out 1).trans rfl; have hcz10_2 : w9.cell? ⟨gb148, 2, none⟩ = some (.slice none 0 0) := (blk_cell BK148.out 2).trans rfl; have hfz10_0 := blk_frozen BK148.out 0; have hfz10_1 := blk_frozen BK148.out 1; have hfz10_2 := blk_frozen BK148.out 2; obtain ⟨Ao11, co11, eo11⟩ := Kd.V_slice HO146.out; subst eo11))
        go_loopg [9] kj3 (fun kq v9 w' => ∃ (x9_2 : Int), v9 = .int .i64 x9_2 ∧ Aside0 (selvedgeref14_Fresh.l0 kq a2 x9_2 t142 t143 t144 = some r) ∧ Aside0 (kq ≤ kj3) ∧ Aside0 (Kd.V (Kd.int .i64) 3 w' w.heap.size (fun k_ => k_ ≠ gb148) (.slice Ao11 t144.length co11) t144) ∧ Aside0 (w'.heap[gb148]? = some (.cells #[.int .i64 t142, .int .i64 t143, (.slice Ao11 t144.length co11)] 54 (0, 0))) ∧ Aside0 (Below w.heap.size w w'))
        case atStart => exact ⟨(0), (by first | rfl | (simp; done) | (simp [*]; done)), H', ⟨Nat.le_refl _⟩, ⟨by (with_reducible repeat (first | apply Kd.V_alloc | apply Kd.V_drewN | apply Kd.V_drew)); exact Kd.V_mono (Kd.V_far (p := ⟨gb148, 2, none⟩) (Kd.V_far (p := ⟨gb148, 1, none⟩) (Kd.V_far (p := ⟨gb148, 0, none⟩) (Kd.V_mono HO146.out (fun k_ hk => (⟨hk, hk.2⟩ : _ ∧ k_ ≠ gb148))) (fun _ hk => hk.2) (.int .i64 t142)) (fun _ hk => hk.2) (.int .i64 t143)) (fun _ hk => hk.2) (.slice Ao11 t144.length co11)) (fun _ hk => hk.1.2)⟩, ⟨by (with_reducible repeat (first | refine blk_drewN ?_ _ | refine blk_drew ?_ | refine blk_alloc ?_ _)); refine blk_put (cs := #[.int .i64 t142, .int .i64 t143, .slice none 0 0]) ?_ 2 _ rfl; (with_reducible repeat (first | refine blk_drewN ?_ _ | refine blk_drew ?_ | refine blk_alloc ?_ _)); refine blk_put (cs := #[.int .i64 t142, .int .i64 0, .slice none 0 0]) ?_ 1 _ rfl; (with_reducible repeat (first | refine blk_drewN ?_ _ | refine blk_drew ?_ | refine blk_alloc ?_ _)); refine blk_put (cs := #[.int .i64 0, .int .i64 0, .slice none 0 0]) ?_ 0 _ rfl; (with_reducible repeat (first | refine blk_drewN ?_ _ | refine blk_drew ?_ | refine blk_alloc ?_ _)); exact BK148.out⟩, ⟨by repeat (first | (with_reducible first | exact HB.out | apply below_alloc | apply pw_below_drewN | apply below_drew1 | refine below_set ?_ GE148.out) | exact HB.out)⟩⟩
        case round =>
          clear H'
          try clear c2
          try clear p2
          try clear c4
          try clear c5
          try clear c5b0
          try clear c6
          try clear hcz10_0
          try clear hcz10_1
          try clear hcz10_2
          try clear hfz10_0
          try clear hfz10_1
          try clear hfz10_2
          try clear p2
          obtain ⟨x9_2, rfl, HA, HK2, HO_149002, BK148, HB⟩ := hrel
          cases gk with
          | zero => exact absurd HA.out (by simp [selvedgeref14_Fresh.l0])
          | succ k2 =>
            have H := HA.out
            clear HA
            simp only [selvedgeref14_Fresh.l0] at H
            by_cases c12 : x9_2 < (t144.length : Int)
            · rw [if_pos c12] at H
              have c12b0 : decide (x9_2 < (t144.length : Int)) = true := decide_eq_true c12
              clear c12
              by_cases c13 : 0 ≤ x9_2
              · rw [if_pos c13] at H
                have c13b0 : decide (0 ≤ x9_2) = true := decide_eq_true c13
                clear c13
                by_cases c14 : (rd t144 x9_2) = a2
                · rw [if_pos c14] at H
                  have c14b0 : ((rd t144 x9_2) == a2) = true := beq_iff_eq.mpr c14
                  have c14b1 : ((rd t144 x9_2) != a2) = false := bne_eq_false_iff_eq.mpr c14
                  clear c14
                  obtain rfl := Option.some.inj H
                  have hcz15_0 : wr.cell? ⟨gb148, 0, none⟩ = some (.int .i64 t142) := (blk_cell BK148.out 0).trans rfl
                  have hcz15_1 : wr.cell? ⟨gb148, 1, none⟩ = some (.int .i64 t143) := (blk_cell BK148.out 1).trans rfl
                  have hcz15_2 : wr.cell? ⟨gb148, 2, none⟩ = some (.slice Ao11 t144.length co11) := (blk_cell BK148.out 2).trans rfl
                  have hfz15_0 := blk_frozen BK148.out 0
                  have hfz15_1 := blk_frozen BK148.out 1
                  have hfz15_2 := blk_frozen BK148.out 2
                  have p149 : 0 ≤ (x9_2 : Int) := of_decide_eq_true (by first | (with_reducible assumption) | assumption)
                  have q149 : x9_2 < (t144.length : Int) := of_decide_eq_true (by first | (with_reducible assumption) | assumption)
                  obtain ⟨ad149, e149, hx149_0⟩ := Kd.at_int (Kd.V_reads' HO_149002.out).2.2 x9_2 p149 q149
                  cases e149
                  replace p149 := eq_true p149
                  replace q149 := eq_true q149
                  go_wp2
                  go_ret
                  exact ⟨by first | rfl | (simp [errW_none, errW_some] <;> rfl) | (simp [*, errW_none, errW_some] <;> rfl), by repeat (first | (with_reducible first | exact HB.out | apply below_alloc | apply pw_below_drewN | apply below_drew1 | refine below_set ?_ GE148.out) | exact HB.out)⟩
                · rw [if_neg c14] at H
                  have c14b0 : ((rd t144 x9_2) == a2) = false := beq_eq_false_iff_ne.mpr c14
                  have c14b1 : ((rd t144 x9_2) != a2) = true := bne_iff_ne.mpr c14
                  have H' := Aside0.mk H
                  clear H
                  have hcz16_0 : wr.cell? ⟨gb148, 0, none⟩ = some (.int .i64 t142) := (blk_cell BK148.out 0).trans rfl
                  have hcz16_1 : wr.cell? ⟨gb148, 1, none⟩ = some (.int .i64 t143) := (blk_cell BK148.out 1).trans rfl
                  have hcz16_2 : wr.cell? ⟨gb148, 2, none⟩ = some (.slice Ao11 t144.length co11) := (blk_cell BK148.out 2).trans rfl
                  have hfz16_0 := blk_frozen BK148.out 0
                  have hfz16_1 := blk_frozen BK148.out 1
                  have hfz16_2 := blk_frozen BK148.out 2
                  have p149 : 0 ≤ (x9_2 : Int) := of_decide_eq_true (by first | (with_reducible assumption) | assumption)
                  have q149 : x9_2 < (t144.length : Int) := of_decide_eq_true (by first | (with_reducible assumption) | assumption)
                  obtain ⟨ad149, e149, hx149_0⟩ := Kd.at_int (Kd.V_reads' HO_149002.out).2.2 x9_2 p149 q149
                  cases e149
                  replace p149 := eq_true p149
                  replace q149 := eq_true q149
                  go_wp2
                  go_roundg k2
                  case measure => have := HJ3.out; have := HK2.out; omega
                  case rel => exact ⟨(wrap64 (x9_2 + 1)), (by first | rfl | (simp; done) | (simp [*]; done)), H', ⟨by have := HJ3.out; have := HK2.out; omega⟩, ⟨by (with_reducible repeat (first | apply Kd.V_alloc | apply Kd.V_drewN | apply Kd.V_drew)); exact HO_149002.out⟩, ⟨by (with_reducible repeat (first | refine blk_drewN ?_ _ | refine blk_drew ?_ | refine blk_alloc ?_ _)); exact BK148.out⟩, ⟨by repeat (first | (with_reducible first | exact HB.out | apply below_alloc | apply pw_below_drewN | apply below_drew1 | refine below_set ?_ GE148.out) | exact HB.out)⟩⟩
              · rw [if_neg c13] at H
                exact absurd H (by simp)
            · rw [if_neg c12] at H
              have c12b0 : decide (x9_2 < (t144.length : Int)) = false := decide_eq_false c12
              clear c12
              by_cases c17 : a2 > t143
              · rw [if_pos c17] at H
                have c17b0 : decide (t143 < a2) = true := decide_eq_true c17
                clear c17
                obtain rfl := Option.some.inj H
                have hcz18_0 : wr.cell? ⟨gb148, 0, none⟩ = some (.int .i64 t142) := (blk_cell BK148.out 0).trans rfl
                have hcz18_1 : wr.cell? ⟨gb148, 1, none⟩ = some (.int .i64 t143) := (blk_cell BK148.out 1).trans rfl
                have hcz18_2 : wr.cell? ⟨gb148, 2, none⟩ = some (.slice Ao11 t144.length co11) := (blk_cell BK148.out 2).trans rfl
                have hfz18_0 := blk_frozen BK148.out 0
                have hfz18_1 := blk_frozen BK148.out 1
                have hfz18_2 := blk_frozen BK148.out 2
                go_wp2
                go_ret
                exact ⟨by first | rfl | (simp [errW_none, errW_some] <;> rfl) | (simp [*, errW_none, errW_some] <;> rfl), by repeat (first | (with_reducible first | exact HB.out | apply below_alloc | apply pw_below_drewN | apply below_drew1 | refine below_set ?_ GE148.out) | exact HB.out)⟩
              · rw [if_neg c17] at H
                have c17b0 : decide (t143 < a2) = false := decide_eq_false c17
                clear c17
                obtain rfl := Option.some.inj H
                have hcz19_0 : wr.cell? ⟨gb148, 0, none⟩ = some (.int .i64 t142) := (blk_cell BK148.out 0).trans rfl
                have hcz19_1 : wr.cell? ⟨gb148, 1, none⟩ = some (.int .i64 t143) := (blk_cell BK148.out 1).trans rfl
                have hcz19_2 : wr.cell? ⟨gb148, 2, none⟩ = some (.slice Ao11 t144.length co11) := (blk_cell BK148.out 2).trans rfl
                have hfz19_0 := blk_frozen BK148.out 0
                have hfz19_1 := blk_frozen BK148.out 1
                have hfz19_2 := blk_frozen BK148.out 2
                go_wp2
                go_ret
                exact ⟨by first | rfl | (simp [errW_none, errW_some] <;> rfl) | (simp [*, errW_none, errW_some] <;> rfl), by repeat (first | (with_reducible first | exact HB.out | apply below_alloc | apply pw_below_drewN | apply below_drew1 | refine below_set ?_ GE148.out) | exact HB.out)⟩

end Go.Proofs.Ytcbfnmabckjijaa.POrderMarks
