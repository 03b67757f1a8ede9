-- written by a program of this session (pp.py), out of the kit's print and this session's contracts
import Derived.Test.YtcbfnmabckjijaaPOrderMarksx0
import Derived.Test.YtcbfnmabckjijaaPOrderMarksx1
import Derived.Test.YtcbfnmabckjijaaPOrderMarksx2
namespace Go.Proofs.Ytcbfnmabckjijaa.POrderMarks
open Go.RowKit Go.Proofs.YtcbfnmabckjijaaW.PrintWords Go.Proofs.YtcbfnmabckjijaaW.PrintLast Go.Proofs.YtcbfnmabckjijaaW.PrintMore
attribute [local go_sem] max2_int min2_int max_two min_two max_three min_three max_four min_four   -- for this text's walks alone
set_option linter.unusedVariables false
set_option linter.unusedSimpArgs false

/-! ### selvedgelaw14_shown: function 16 -/
def selvedgelaw14_shown.f (k : Nat)  : Option (Bool) := (order_Note.f ([] : List (S54)) 2 1).bind fun t108 => ((order_Note.f t108 2 3).bind fun t111 => ((order_Note.f t111 2 2).bind fun t114 => (if (t111.length : Int) = 1 then (if 0 < (t111.length : Int) then (if ((rd_T54 t111 0).f1) = 1 then (if (t114.length : Int) = 1 then (if 0 < (t114.length : Int) then (if ((rd_T54 t114 0).f1) = 3 then ((order_Fresh.f t114 2 2).bind fun t119 => (if t119 = true then (some false) else ((order_Fresh.f t114 2 4).bind fun t120 => (if t120 = true then ((order_Fresh.f t114 2 12).bind fun t121 => (if t121 = true then (some false) else ((order_Right.f k t114).bind fun t122 => (some t122)))) else (some false))))) else (some false)) else (none)) else (some false)) else (some false)) else (none)) else (some false))))
theorem selvedgelaw14_shown.mono : ∀ k, LeO (selvedgelaw14_shown.f k ) (selvedgelaw14_shown.f (k + 1) ) := by
  intro  k
  unfold selvedgelaw14_shown.f
  repeat' first
      | (with_reducible exact order_Right.mono _ _)
      | (with_reducible exact LeO.refl _)
      | (with_reducible exact LeO.none _)
      | (with_reducible refine LeO.ite ?_ ?_)
      | (with_reducible refine LeO.bind ?_ (fun _ => ?_))
      | exact order_Right.mono _ _
      | exact LeO.none _
      | refine LeO.ite ?_ ?_
      | refine LeO.bind ?_ (fun _ => ?_)
set_option maxHeartbeats 8000000 in
set_option maxRecDepth 100000 in
theorem selvedgelaw14_shown.calls (k : Nat)  (r : Bool) (w : World) (h : selvedgelaw14_shown.f k  = some r) :
    Calls Try.prog 16 #[] w fun e w' => e = .returned (.bool r) ∧ Below w.heap.size w w' := by
  have HB := Aside0.mk (Below.refl w.heap.size w)
  have H : ((order_Note.f ([] : List (S54)) 2 1).bind fun t108 => ((order_Note.f t108 2 3).bind fun t111 => ((order_Note.f t111 2 2).bind fun t114 => (if (t111.length : Int) = 1 then (if 0 < (t111.length : Int) then (if ((rd_T54 t111 0).f1) = 1 then (if (t114.length : Int) = 1 then (if 0 < (t114.length : Int) then (if ((rd_T54 t114 0).f1) = 3 then ((order_Fresh.f t114 2 2).bind fun t119 => (if t119 = true then (some false) else ((order_Fresh.f t114 2 4).bind fun t120 => (if t120 = true then ((order_Fresh.f t114 2 12).bind fun t121 => (if t121 = true then (some false) else ((order_Right.f k t114).bind fun t122 => (some t122)))) else (some false))))) else (some false)) else (none)) else (some false)) else (some false)) else (none)) else (some false))))) = some r := h
  clear h
  replace H := Option.bind_eq_some_iff.mp H
  obtain ⟨t108, A10, H⟩ := H
  replace H : ((order_Note.f t108 2 3).bind fun t111 => ((order_Note.f t111 2 2).bind fun t114 => (if (t111.length : Int) = 1 then (if 0 < (t111.length : Int) then (if ((rd_T54 t111 0).f1) = 1 then (if (t114.length : Int) = 1 then (if 0 < (t114.length : Int) then (if ((rd_T54 t114 0).f1) = 3 then ((order_Fresh.f t114 2 2).bind fun t119 => (if t119 = true then (some false) else ((order_Fresh.f t114 2 4).bind fun t120 => (if t120 = true then ((order_Fresh.f t114 2 12).bind fun t121 => (if t121 = true then (some false) else ((order_Right.f k t114).bind fun t122 => (some t122)))) else (some false))))) else (some false)) else (none)) else (some false)) else (some false)) else (none)) else (some false)))) = some r := H
  have A1 := Aside0.mk A10
  clear A10
  replace H := Option.bind_eq_some_iff.mp H
  obtain ⟨t111, A20, H⟩ := H
  replace H : ((order_Note.f t111 2 2).bind fun t114 => (if (t111.length : Int) = 1 then (if 0 < (t111.length : Int) then (if ((rd_T54 t111 0).f1) = 1 then (if (t114.length : Int) = 1 then (if 0 < (t114.length : Int) then (if ((rd_T54 t114 0).f1) = 3 then ((order_Fresh.f t114 2 2).bind fun t119 => (if t119 = true then (some false) else ((order_Fresh.f t114 2 4).bind fun t120 => (if t120 = true then ((order_Fresh.f t114 2 12).bind fun t121 => (if t121 = true then (some false) else ((order_Right.f k t114).bind fun t122 => (some t122)))) else (some false))))) else (some false)) else (none)) else (some false)) else (some false)) else (none)) else (some false))) = some r := H
  have A2 := Aside0.mk A20
  clear A20
  replace H := Option.bind_eq_some_iff.mp H
  obtain ⟨t114, A30, H⟩ := H
  replace H : (if (t111.length : Int) = 1 then (if 0 < (t111.length : Int) then (if ((rd_T54 t111 0).f1) = 1 then (if (t114.length : Int) = 1 then (if 0 < (t114.length : Int) then (if ((rd_T54 t114 0).f1) = 3 then ((order_Fresh.f t114 2 2).bind fun t119 => (if t119 = true then (some false) else ((order_Fresh.f t114 2 4).bind fun t120 => (if t120 = true then ((order_Fresh.f t114 2 12).bind fun t121 => (if t121 = true then (some false) else ((order_Right.f k t114).bind fun t122 => (some t122)))) else (some false))))) else (some false)) else (none)) else (some false)) else (some false)) else (none)) else (some false)) = some r := H
  have A3 := Aside0.mk A30
  clear A30
  by_cases c4 : (t111.length : Int) = 1
  · rw [if_pos c4] at H
    have c4b0 : ((t111.length : Int) == 1) = true := beq_iff_eq.mpr c4
    have c4b1 : ((t111.length : Int) != 1) = false := bne_eq_false_iff_eq.mpr c4
    clear c4
    by_cases c5 : 0 < (t111.length : Int)
    · rw [if_pos c5] at H
      have c5b0 : decide (0 < (t111.length : Int)) = true := decide_eq_true c5
      have c5b1 : decide (0 < t111.length) = true := decide_eq_true (by omega)
      clear c5
      by_cases c6 : ((rd_T54 t111 0).f1) = 1
      · rw [if_pos c6] at H
        have c6b0 : (((rd_T54 t111 0).f1) == 1) = true := beq_iff_eq.mpr c6
        have c6b1 : (((rd_T54 t111 0).f1) != 1) = false := bne_eq_false_iff_eq.mpr c6
        clear c6
        by_cases c7 : (t114.length : Int) = 1
        · rw [if_pos c7] at H
          have c7b0 : ((t114.length : Int) == 1) = true := beq_iff_eq.mpr c7
          have c7b1 : ((t114.length : Int) != 1) = false := bne_eq_false_iff_eq.mpr c7
          clear c7
          by_cases c8 : 0 < (t114.length : Int)
          · rw [if_pos c8] at H
            have c8b0 : decide (0 < (t114.length : Int)) = true := decide_eq_true c8
            have c8b1 : decide (0 < t114.length) = true := decide_eq_true (by omega)
            clear c8
            by_cases c9 : ((rd_T54 t114 0).f1) = 3
            · rw [if_pos c9] at H
              have c9b0 : (((rd_T54 t114 0).f1) == 3) = true := beq_iff_eq.mpr c9
              have c9b1 : (((rd_T54 t114 0).f1) != 3) = false := bne_eq_false_iff_eq.mpr c9
              clear c9
              replace H := Option.bind_eq_some_iff.mp H
              obtain ⟨t119, A100, H⟩ := H
              replace H : (if t119 = true then (some false) else ((order_Fresh.f t114 2 4).bind fun t120 => (if t120 = true then ((order_Fresh.f t114 2 12).bind fun t121 => (if t121 = true then (some false) else ((order_Right.f k t114).bind fun t122 => (some t122)))) else (some false)))) = some r := H
              have A10 := Aside0.mk A100
              clear A100
              by_cases c11 : t119 = true
              · subst c11
                have H1 : (some false) = some r := by rw [if_pos rfl] at H; exact H
                clear H
                have H := H1
                clear H1
                obtain rfl := Option.some.inj H
                go_enter Try.func16, Try.ntmps16
                go_wp2_with (first | ((with_reducible refine gate_callee (f := 19) rfl ?_); refine goesL_ (some 3) rfl rfl Try.func19 (by kernel_rfl) rfl #[.slice none 0 0, .int .i64 2, .int .i64 1] rfl (by (try simp only [List.map_toArray, List.map_cons, List.map_nil]); first | done | rfl | (simp only [List.length_drop, List.length_take]; rfl)) ?_; (refine (order_Note.calls (fun k_ => False) _ _ ([] : List (S54)) 2 1 t108 _ ?side1 A1.out).mono ?_); (case side1 => exact Kd.V_nil _ _ _ _ _); rintro e w12 ⟨v109, rfl, ho0, hb⟩; refine ⟨_, rfl, ?_⟩; have n0_ := Aside0.mk (Kd.V_lower (Kd.V_mono (ok' := fun k_ => True) ho0 (fun k_ hk_ => trivial)) (below_size (by repeat (first | (with_reducible first | exact HB.out | apply below_alloc | apply pw_below_drewN | apply below_drew1) | exact HB.out)))); have n1_ := Aside0.mk (below_step (by repeat (first | (with_reducible first | exact HB.out | apply below_alloc | apply pw_below_drewN | apply below_drew1) | exact HB.out)) hb); clear HB; have HO110 := n0_; have HB := n1_; clear n0_ n1_; (try clear hb); (try clear hb2); (try clear hk); (try clear hi); (try clear ho0); obtain ⟨Ao13, co13, eo13⟩ := Kd.V_slice HO110.out; subst eo13) | ((with_reducible refine gate_callee (f := 19) rfl ?_); refine goesL_ (some 4) rfl rfl Try.func19 (by kernel_rfl) rfl #[.slice Ao13 t108.length co13, .int .i64 2, .int .i64 3] rfl (by (try simp only [List.map_toArray, List.map_cons, List.map_nil]); first | done | rfl | (simp only [List.length_drop, List.length_take]; rfl)) ?_; (with_reducible refine (order_Note.calls (fun k_ => True) _ _ t108 2 3 t111 _ ?side1 A2.out).mono ?_); (case side1 => exact HO110.out); rintro e w14 ⟨v112, rfl, ho0, hb⟩; refine ⟨_, rfl, ?_⟩; have n0_ := Aside0.mk (Kd.V_below (by (with_reducible repeat (first | apply Kd.V_alloc | apply Kd.V_drewN | apply Kd.V_drew)); exact HO110.out) hb); have n1_ := Aside0.mk (Kd.V_lower (Kd.V_mono (ok' := fun k_ => True) ho0 (fun k_ hk_ => trivial)) (below_size (by repeat (first | (with_reducible first | exact HB.out | apply below_alloc | apply pw_below_drewN | apply below_drew1) | exact HB.out)))); have n2_ := Aside0.mk (below_step (by repeat (first | (with_reducible first | exact HB.out | apply below_alloc | apply pw_below_drewN | apply below_drew1) | exact HB.out)) hb); clear HO110; clear HB; have HO110 := n0_; have HO113 := n1_; have HB := n2_; clear n0_ n1_ n2_; (try clear hb); (try clear hb2); (try clear hk); (try clear hi); (try clear ho0); obtain ⟨Ao15, co15, eo15⟩ := Kd.V_slice HO113.out; subst eo15) | ((with_reducible refine gate_callee (f := 19) rfl ?_); refine goesL_ (some 6) rfl rfl Try.func19 (by kernel_rfl) rfl #[.slice Ao15 t111.length co15, .int .i64 2, .int .i64 2] rfl (by (try simp only [List.map_toArray, List.map_cons, List.map_nil]); first | done | rfl | (simp only [List.length_drop, List.length_take]; rfl)) ?_; (with_reducible refine (order_Note.calls (fun k_ => True) _ _ t111 2 2 t114 _ ?side1 A3.out).mono ?_); (case side1 => exact HO113.out); rintro e w16 ⟨v115, rfl, ho0, hb⟩; refine ⟨_, rfl, ?_⟩; have n0_ := Aside0.mk (Kd.V_below (by (with_reducible repeat (first | apply Kd.V_alloc | apply Kd.V_drewN | apply Kd.V_drew)); exact HO110.out) hb); have n1_ := Aside0.mk (Kd.V_below (by (with_reducible repeat (first | apply Kd.V_alloc | apply Kd.V_drewN | apply Kd.V_drew)); exact HO113.out) hb); have n2_ := Aside0.mk (Kd.V_lower (Kd.V_mono (ok' := fun k_ => True) ho0 (fun k_ hk_ => trivial)) (below_size (by repeat (first | (with_reducible first | exact HB.out | apply below_alloc | apply pw_below_drewN | apply below_drew1) | exact HB.out)))); have n3_ := Aside0.mk (below_step (by repeat (first | (with_reducible first | exact HB.out | apply below_alloc | apply pw_below_drewN | apply below_drew1) | exact HB.out)) hb); clear HO110; clear HO113; clear HB; have HO110 := n0_; have HO113 := n1_; have HO116 := n2_; have HB := n3_; clear n0_ n1_ n2_ n3_; (try clear hb); (try clear hb2); (try clear hk); (try clear hi); (try clear ho0); have p117 : 0 ≤ (0 : Int) := (by omega); have q117 : 0 < (t111.length : Int) := of_decide_eq_true (by first | (with_reducible assumption) | assumption); obtain ⟨ad117, A117_2, c117_2, e117, hx117_0, hx117_1, hx117_2, hl117_2, hi117_2⟩ := at_T54 (Kd.V_reads' HO113.out).2.2 0 p117 q117; cases e117; obtain ⟨ce117, hce117, hMe117, hcc117⟩ := Kd.V_get HO113.out z54 0 p117 (by first | exact q117 | exact of_decide_eq_true (by first | (with_reducible assumption) | assumption) | (have e_ := (Kd.V_reads' HO113.out).1; omega)); obtain ⟨ua117_2, uc117_2, rfl, ul117_2, ge117_2⟩ := k54_openF hMe117; have hv117_2 := hcc117 2 _ rfl; rw [add_field _ _ 2 (by omega)] at hv117_2; replace hv117_2 := Option.some.inj (hv117_2.symm.trans hx117_2); injection hv117_2 with hva_ hvn_ hvc_; rw [hva_] at ge117_2; rw [hvc_] at ul117_2; have HL117_2 := Aside0.mk (show Kd.V (Kd.int .i64) 3 _ w.heap.size _ _ ((rd_T54 t111 0).f2) from Kd.V_mk ul117_2 ge117_2); clear hva_ hvn_ hvc_ ge117_2 ul117_2; clear hcc117 hce117; have qi117 : (0 < t111.length) = True := eq_true (by omega); (try rw [show ((0 : Int)).toNat = 0 from rfl] at hx117_0); (try rw [show 0 * 3 = 0 from rfl] at hx117_0); (try rw [Addr.add_zero'] at hx117_0); (try rw [show ((0 : Int)).toNat = 0 from rfl] at hx117_1); (try rw [show 0 * 3 = 0 from rfl] at hx117_1); (try rw [Addr.add_zero'] at hx117_1); (try rw [show ((0 : Int)).toNat = 0 from rfl] at hx117_2); (try rw [show 0 * 3 = 0 from rfl] at hx117_2); (try rw [Addr.add_zero'] at hx117_2); have HR117_2 := Aside0.mk hi117_2; have HC117_2 := Aside0.mk hl117_2; clear hi117_2 hl117_2; replace p117 := eq_true p117; replace q117 := eq_true q117; obtain ⟨Ao17, co17, eo17⟩ := Kd.V_slice HO116.out; subst eo17; have p118 : 0 ≤ (0 : Int) := (by omega); have q118 : 0 < (t114.length : Int) := of_decide_eq_true (by first | (with_reducible assumption) | assumption); obtain ⟨ad118, A118_2, c118_2, e118, hx118_0, hx118_1, hx118_2, hl118_2, hi118_2⟩ := at_T54 (Kd.V_reads' HO116.out).2.2 0 p118 q118; cases e118; obtain ⟨ce118, hce118, hMe118, hcc118⟩ := Kd.V_get HO116.out z54 0 p118 (by first | exact q118 | exact of_decide_eq_true (by first | (with_reducible assumption) | assumption) | (have e_ := (Kd.V_reads' HO116.out).1; omega)); obtain ⟨ua118_2, uc118_2, rfl, ul118_2, ge118_2⟩ := k54_openF hMe118; have hv118_2 := hcc118 2 _ rfl; rw [add_field _ _ 2 (by omega)] at hv118_2; replace hv118_2 := Option.some.inj (hv118_2.symm.trans hx118_2); injection hv118_2 with hva_ hvn_ hvc_; rw [hva_] at ge118_2; rw [hvc_] at ul118_2; have HL118_2 := Aside0.mk (show Kd.V (Kd.int .i64) 3 _ w.heap.size _ _ ((rd_T54 t114 0).f2) from Kd.V_mk ul118_2 ge118_2); clear hva_ hvn_ hvc_ ge118_2 ul118_2; clear hcc118 hce118; have qi118 : (0 < t114.length) = True := eq_true (by omega); (try rw [show ((0 : Int)).toNat = 0 from rfl] at hx118_0); (try rw [show 0 * 3 = 0 from rfl] at hx118_0); (try rw [Addr.add_zero'] at hx118_0); (try rw [show ((0 : Int)).toNat = 0 from rfl] at hx118_1); (try rw [show 0 * 3 = 0 from rfl] at hx118_1); (try rw [Addr.add_zero'] at hx118_1); (try rw [show ((0 : Int)).toNat = 0 from rfl] at hx118_2); (try rw [show 0 * 3 = 0 from rfl] at hx118_2); (try rw [Addr.add_zero'] at hx118_2); have HR118_2 := Aside0.mk hi118_2; have HC118_2 := Aside0.mk hl118_2; clear hi118_2 hl118_2; replace p118 := eq_true p118; replace q118 := eq_true q118) | (go_at_call 21; (with_reducible refine (order_Fresh.calls _ _ t114 2 2 true _ ?side1 ?side2 A10.out).mono ?_); (case side1 => repeat (first | exact (Kd.V_reads' HO116.out).2.2 | (with_reducible refine Kd.C_alloc ?_ _) | (with_reducible refine Kd.C_drewN ?_ _) | (with_reducible refine Kd.C_drew ?_))); (case side2 => exact (Kd.V_reads' HO116.out).2.1); rintro e w18 ⟨rfl, hb⟩; have n0_ := Aside0.mk (Kd.V_below (by (with_reducible repeat (first | apply Kd.V_alloc | apply Kd.V_drewN | apply Kd.V_drew)); exact HO110.out) hb); have n1_ := Aside0.mk (Kd.V_below (by (with_reducible repeat (first | apply Kd.V_alloc | apply Kd.V_drewN | apply Kd.V_drew)); exact HO113.out) hb); have n2_ := Aside0.mk (Kd.V_below (by (with_reducible repeat (first | apply Kd.V_alloc | apply Kd.V_drewN | apply Kd.V_drew)); exact HO116.out) hb); have n3_ := Aside0.mk (Kd.V_below (by (with_reducible repeat (first | apply Kd.V_alloc | apply Kd.V_drewN | apply Kd.V_drew)); exact HL117_2.out) hb); have n4_ := Aside0.mk (Kd.V_below (by (with_reducible repeat (first | apply Kd.V_alloc | apply Kd.V_drewN | apply Kd.V_drew)); exact HL118_2.out) hb); have n5_ := Aside0.mk (Kd.C_below (by repeat (first | (with_reducible exact HR117_2.out) | (with_reducible refine Kd.C_alloc ?_ _) | (with_reducible refine Kd.C_drewN ?_ _) | (with_reducible refine Kd.C_drew ?_) | exact HR117_2.out)) hb); have n6_ := Aside0.mk (Kd.C_below (by repeat (first | (with_reducible exact HR118_2.out) | (with_reducible refine Kd.C_alloc ?_ _) | (with_reducible refine Kd.C_drewN ?_ _) | (with_reducible refine Kd.C_drew ?_) | exact HR118_2.out)) hb); have n7_ := Aside0.mk (below_step (by repeat (first | (with_reducible first | exact HB.out | apply below_alloc | apply pw_below_drewN | apply below_drew1) | exact HB.out)) hb); clear HO110; clear HO113; clear HO116; clear HL117_2; clear HL118_2; clear HR117_2; clear HR118_2; clear HB; have HO110 := n0_; have HO113 := n1_; have HO116 := n2_; have HL117_2 := n3_; have HL118_2 := n4_; have HR117_2 := n5_; have HR118_2 := n6_; have HB := n7_; clear n0_ n1_ n2_ n3_ n4_ n5_ n6_ n7_; (try clear hb); (try clear hb2); (try clear hk); (try clear hi)))
                go_ret
                exact ⟨by first | rfl | (simp [errW_none, errW_some] <;> rfl) | (simp [*, errW_none, errW_some] <;> rfl), by repeat (first | (with_reducible first | exact HB.out | apply below_alloc | apply pw_below_drewN | apply below_drew1) | exact HB.out)⟩
              · replace c11 := Bool.eq_false_iff.mpr c11
                subst c11
                have H1 : ((order_Fresh.f t114 2 4).bind fun t120 => (if t120 = true then ((order_Fresh.f t114 2 12).bind fun t121 => (if t121 = true then (some false) else ((order_Right.f k t114).bind fun t122 => (some t122)))) else (some false))) = some r := by rw [if_neg (show ¬ (false = true) by decide)] at H; exact H
                clear H
                have H := H1
                clear H1
                replace H := Option.bind_eq_some_iff.mp H
                obtain ⟨t120, A190, H⟩ := H
                replace H : (if t120 = true then ((order_Fresh.f t114 2 12).bind fun t121 => (if t121 = true then (some false) else ((order_Right.f k t114).bind fun t122 => (some t122)))) else (some false)) = some r := H
                have A19 := Aside0.mk A190
                clear A190
                by_cases c20 : t120 = true
                · subst c20
                  have H1 : ((order_Fresh.f t114 2 12).bind fun t121 => (if t121 = true then (some false) else ((order_Right.f k t114).bind fun t122 => (some t122)))) = some r := by rw [if_pos rfl] at H; exact H
                  clear H
                  have H := H1
                  clear H1
                  replace H := Option.bind_eq_some_iff.mp H
                  obtain ⟨t121, A210, H⟩ := H
                  replace H : (if t121 = true then (some false) else ((order_Right.f k t114).bind fun t122 => (some t122))) = some r := H
                  have A21 := Aside0.mk A210
                  clear A210
                  by_cases c22 : t121 = true
                  · subst c22
                    have H1 : (some false) = some r := by rw [if_pos rfl] at H; exact H
                    clear H
                    have H := H1
                    clear H1
                    obtain rfl := Option.some.inj H
                    go_enter Try.func16, Try.ntmps16
                    go_wp2_with (first | ((with_reducible refine gate_callee (f := 19) rfl ?_); refine goesL_ (some 3) rfl rfl Try.func19 (by kernel_rfl) rfl #[.slice none 0 0, .int .i64 2, .int .i64 1] rfl (by (try simp only [List.map_toArray, List.map_cons, List.map_nil]); first | done | rfl | (simp only [List.length_drop, List.length_take]; rfl)) ?_; (refine (order_Note.calls (fun k_ => False) _ _ ([] : List (S54)) 2 1 t108 _ ?side1 A1.out).mono ?_); (case side1 => exact Kd.V_nil _ _ _ _ _); rintro e w23 ⟨v109, rfl, ho0, hb⟩; refine ⟨_, rfl, ?_⟩; have n0_ := Aside0.mk (Kd.V_lower (Kd.V_mono (ok' := fun k_ => True) ho0 (fun k_ hk_ => trivial)) (below_size (by repeat (first | (with_reducible first | exact HB.out | apply below_alloc | apply pw_below_drewN | apply below_drew1) | exact HB.out)))); have n1_ := Aside0.mk (below_step (by repeat (first | (with_reducible first | exact HB.out | apply below_alloc | apply pw_below_drewN | apply below_drew1) | exact HB.out)) hb); clear HB; have HO110 := n0_; have HB := n1_; clear n0_ n1_; (try clear hb); (try clear hb2); (try clear hk); (try clear hi); (try clear ho0); obtain ⟨Ao24, co24, eo24⟩ := Kd.V_slice HO110.out; subst eo24) | ((with_reducible refine gate_callee (f := 19) rfl ?_); refine goesL_ (some 4) rfl rfl Try.func19 (by kernel_rfl) rfl #[.slice Ao24 t108.length co24, .int .i64 2, .int .i64 3] rfl (by (try simp only [List.map_toArray, List.map_cons, List.map_nil]); first | done | rfl | (simp only [List.length_drop, List.length_take]; rfl)) ?_; (with_reducible refine (order_Note.calls (fun k_ => True) _ _ t108 2 3 t111 _ ?side1 A2.out).mono ?_); (case side1 => exact HO110.out); rintro e w25 ⟨v112, rfl, ho0, hb⟩; refine ⟨_, rfl, ?_⟩; have n0_ := Aside0.mk (Kd.V_below (by (with_reducible repeat (first | apply Kd.V_alloc | apply Kd.V_drewN | apply Kd.V_drew)); exact HO110.out) hb); have n1_ := Aside0.mk (Kd.V_lower (Kd.V_mono (ok' := fun k_ => True) ho0 (fun k_ hk_ => trivial)) (below_size (by repeat (first | (with_reducible first | exact HB.out | apply below_alloc | apply pw_below_drewN | apply below_drew1) | exact HB.out)))); have n2_ := Aside0.mk (below_step (by repeat (first | (with_reducible first | exact HB.out | apply below_alloc | apply pw_below_drewN | apply below_drew1) | exact HB.out)) hb); clear HO110; clear HB; have HO110 := n0_; have HO113 := n1_; have HB := n2_; clear n0_ n1_ n2_; (try clear hb); (try clear hb2); (try clear hk); (try clear hi); (try clear ho0); obtain ⟨Ao26, co26, eo26⟩ := Kd.V_slice HO113.out; subst eo26) | ((with_reducible refine gate_callee (f := 19) rfl ?_); refine goesL_ (some 6) rfl rfl Try.func19 (by kernel_rfl) rfl #[.slice Ao26 t111.length co26, .int .i64 2, .int .i64 2] rfl (by (try simp only [List.map_toArray, List.map_cons, List.map_nil]); first | done | rfl | (simp only [List.length_drop, List.length_take]; rfl)) ?_; (with_reducible refine (order_Note.calls (fun k_ => True) _ _ t111 2 2 t114 _ ?side1 A3.out).mono ?_); (case side1 => exact HO113.out); rintro e w27 ⟨v115, rfl, ho0, hb⟩; refine ⟨_, rfl, ?_⟩; have n0_ := Aside0.mk (Kd.V_below (by (with_reducible repeat (first | apply Kd.V_alloc | apply Kd.V_drewN | apply Kd.V_drew)); exact HO110.out) hb); have n1_ := Aside0.mk (Kd.V_below (by (with_reducible repeat (first | apply Kd.V_alloc | apply Kd.V_drewN | apply Kd.V_drew)); exact HO113.out) hb); have n2_ := Aside0.mk (Kd.V_lower (Kd.V_mono (ok' := fun k_ => True) ho0 (fun k_ hk_ => trivial)) (below_size (by repeat (first | (with_reducible first | exact HB.out | apply below_alloc | apply pw_below_drewN | apply below_drew1) | exact HB.out)))); have n3_ := Aside0.mk (below_step (by repeat (first | (with_reducible first | exact HB.out | apply below_alloc | apply pw_below_drewN | apply below_drew1) | exact HB.out)) hb); clear HO110; clear HO113; clear HB; have HO110 := n0_; have HO113 := n1_; have HO116 := n2_; have HB := n3_; clear n0_ n1_ n2_ n3_; (try clear hb); (try clear hb2); (try clear hk); (try clear hi); (try clear ho0); have p117 : 0 ≤ (0 : Int) := (by omega); have q117 : 0 < (t111.length : Int) := of_decide_eq_true (by first | (with_reducible assumption) | assumption); obtain ⟨ad117, A117_2, c117_2, e117, hx117_0, hx117_1, hx117_2, hl117_2, hi117_2⟩ := at_T54 (Kd.V_reads' HO113.out).2.2 0 p117 q117; cases e117; obtain ⟨ce117, hce117, hMe117, hcc117⟩ := Kd.V_get HO113.out z54 0 p117 (by first | exact q117 | exact of_decide_eq_true (by first | (with_reducible assumption) | assumption) | (have e_ := (Kd.V_reads' HO113.out).1; omega)); obtain ⟨ua117_2, uc117_2, rfl, ul117_2, ge117_2⟩ := k54_openF hMe117; have hv117_2 := hcc117 2 _ rfl; rw [add_field _ _ 2 (by omega)] at hv117_2; replace hv117_2 := Option.some.inj (hv117_2.symm.trans hx117_2); injection hv117_2 with hva_ hvn_ hvc_; rw [hva_] at ge117_2; rw [hvc_] at ul117_2; have HL117_2 := Aside0.mk (show Kd.V (Kd.int .i64) 3 _ w.heap.size _ _ ((rd_T54 t111 0).f2) from Kd.V_mk ul117_2 ge117_2); clear hva_ hvn_ hvc_ ge117_2 ul117_2; clear hcc117 hce117; have qi117 : (0 < t111.length) = True := eq_true (by omega); (try rw [show ((0 : Int)).toNat = 0 from rfl] at hx117_0); (try rw [show 0 * 3 = 0 from rfl] at hx117_0); (try rw [Addr.add_zero'] at hx117_0); (try rw [show ((0 : Int)).toNat = 0 from rfl] at hx117_1); (try rw [show 0 * 3 = 0 from rfl] at hx117_1); (try rw [Addr.add_zero'] at hx117_1); (try rw [show ((0 : Int)).toNat = 0 from rfl] at hx117_2); (try rw [show 0 * 3 = 0 from rfl] at hx117_2); (try rw [Addr.add_zero'] at hx117_2); have HR117_2 := Aside0.mk hi117_2; have HC117_2 := Aside0.mk hl117_2; clear hi117_2 hl117_2; replace p117 := eq_true p117; replace q117 := eq_true q117; obtain ⟨Ao28, co28, eo28⟩ := Kd.V_slice HO116.out; subst eo28; have p118 : 0 ≤ (0 : Int) := (by omega); have q118 : 0 < (t114.length : Int) := of_decide_eq_true (by first | (with_reducible assumption) | assumption); obtain ⟨ad118, A118_2, c118_2, e118, hx118_0, hx118_1, hx118_2, hl118_2, hi118_2⟩ := at_T54 (Kd.V_reads' HO116.out).2.2 0 p118 q118; cases e118; obtain ⟨ce118, hce118, hMe118, hcc118⟩ := Kd.V_get HO116.out z54 0 p118 (by first | exact q118 | exact of_decide_eq_true (by first | (with_reducible assumption) | assumption) | (have e_ := (Kd.V_reads' HO116.out).1; omega)); obtain ⟨ua118_2, uc118_2, rfl, ul118_2, ge118_2⟩ := k54_openF hMe118; have hv118_2 := hcc118 2 _ rfl; rw [add_field _ _ 2 (by omega)] at hv118_2; replace hv118_2 := Option.some.inj (hv118_2.symm.trans hx118_2); injection hv118_2 with hva_ hvn_ hvc_; rw [hva_] at ge118_2; rw [hvc_] at ul118_2; have HL118_2 := Aside0.mk (show Kd.V (Kd.int .i64) 3 _ w.heap.size _ _ ((rd_T54 t114 0).f2) from Kd.V_mk ul118_2 ge118_2); clear hva_ hvn_ hvc_ ge118_2 ul118_2; clear hcc118 hce118; have qi118 : (0 < t114.length) = True := eq_true (by omega); (try rw [show ((0 : Int)).toNat = 0 from rfl] at hx118_0); (try rw [show 0 * 3 = 0 from rfl] at hx118_0); (try rw [Addr.add_zero'] at hx118_0); (try rw [show ((0 : Int)).toNat = 0 from rfl] at hx118_1); (try rw [show 0 * 3 = 0 from rfl] at hx118_1); (try rw [Addr.add_zero'] at hx118_1); (try rw [show ((0 : Int)).toNat = 0 from rfl] at hx118_2); (try rw [show 0 * 3 = 0 from rfl] at hx118_2); (try rw [Addr.add_zero'] at hx118_2); have HR118_2 := Aside0.mk hi118_2; have HC118_2 := Aside0.mk hl118_2; clear hi118_2 hl118_2; replace p118 := eq_true p118; replace q118 := eq_true q118) | (go_at_call 21; (with_reducible refine (order_Fresh.calls _ _ t114 2 2 false _ ?side1 ?side2 A10.out).mono ?_); (case side1 => repeat (first | exact (Kd.V_reads' HO116.out).2.2 | (with_reducible refine Kd.C_alloc ?_ _) | (with_reducible refine Kd.C_drewN ?_ _) | (with_reducible refine Kd.C_drew ?_))); (case side2 => exact (Kd.V_reads' HO116.out).2.1); rintro e w29 ⟨rfl, hb⟩; have n0_ := Aside0.mk (Kd.V_below (by (with_reducible repeat (first | apply Kd.V_alloc | apply Kd.V_drewN | apply Kd.V_drew)); exact HO110.out) hb); have n1_ := Aside0.mk (Kd.V_below (by (with_reducible repeat (first | apply Kd.V_alloc | apply Kd.V_drewN | apply Kd.V_drew)); exact HO113.out) hb); have n2_ := Aside0.mk (Kd.V_below (by (with_reducible repeat (first | apply Kd.V_alloc | apply Kd.V_drewN | apply Kd.V_drew)); exact HO116.out) hb); have n3_ := Aside0.mk (Kd.V_below (by (with_reducible repeat (first | apply Kd.V_alloc | apply Kd.V_drewN | apply Kd.V_drew)); exact HL117_2.out) hb); have n4_ := Aside0.mk (Kd.V_below (by (with_reducible repeat (first | apply Kd.V_alloc | apply Kd.V_drewN | apply Kd.V_drew)); exact HL118_2.out) hb); have n5_ := Aside0.mk (Kd.C_below (by repeat (first | (with_reducible exact HR117_2.out) | (with_reducible refine Kd.C_alloc ?_ _) | (with_reducible refine Kd.C_drewN ?_ _) | (with_reducible refine Kd.C_drew ?_) | exact HR117_2.out)) hb); have n6_ := Aside0.mk (Kd.C_below (by repeat (first | (with_reducible exact HR118_2.out) | (with_reducible refine Kd.C_alloc ?_ _) | (with_reducible refine Kd.C_drewN ?_ _) | (with_reducible refine Kd.C_drew ?_) | exact HR118_2.out)) hb); have n7_ := Aside0.mk (below_step (by repeat (first | (with_reducible first | exact HB.out | apply below_alloc | apply pw_below_drewN | apply below_drew1) | exact HB.out)) hb); clear HO110; clear HO113; clear HO116; clear HL117_2; clear HL118_2; clear HR117_2; clear HR118_2; clear HB; have HO110 := n0_; have HO113 := n1_; have HO116 := n2_; have HL117_2 := n3_; have HL118_2 := n4_; have HR117_2 := n5_; have HR118_2 := n6_; have HB := n7_; clear n0_ n1_ n2_ n3_ n4_ n5_ n6_ n7_; (try clear hb); (try clear hb2); (try clear hk); (try clear hi)) | (go_at_call 21; (with_reducible refine (order_Fresh.calls _ _ t114 2 4 true _ ?side1 ?side2 A19.out).mono ?_); (case side1 => repeat (first | exact (Kd.V_reads' HO116.out).2.2 | (with_reducible refine Kd.C_alloc ?_ _) | (with_reducible refine Kd.C_drewN ?_ _) | (with_reducible refine Kd.C_drew ?_))); (case side2 => exact (Kd.V_reads' HO116.out).2.1); rintro e w30 ⟨rfl, hb⟩; have n0_ := Aside0.mk (Kd.V_below (by (with_reducible repeat (first | apply Kd.V_alloc | apply Kd.V_drewN | apply Kd.V_drew)); exact HO110.out) hb); have n1_ := Aside0.mk (Kd.V_below (by (with_reducible repeat (first | apply Kd.V_alloc | apply Kd.V_drewN | apply Kd.V_drew)); exact HO113.out) hb); have n2_ := Aside0.mk (Kd.V_below (by (with_reducible repeat (first | apply Kd.V_alloc | apply Kd.V_drewN | apply Kd.V_drew)); exact HO116.out) hb); have n3_ := Aside0.mk (Kd.V_below (by (with_reducible repeat (first | apply Kd.V_alloc | apply Kd.V_drewN | apply Kd.V_drew)); exact HL117_2.out) hb); have n4_ := Aside0.mk (Kd.V_below (by (with_reducible repeat (first | apply Kd.V_alloc | apply Kd.V_drewN | apply Kd.V_drew)); exact HL118_2.out) hb); have n5_ := Aside0.mk (Kd.C_below (by repeat (first | (with_reducible exact HR117_2.out) | (with_reducible refine Kd.C_alloc ?_ _) | (with_reducible refine Kd.C_drewN ?_ _) | (with_reducible refine Kd.C_drew ?_) | exact HR117_2.out)) hb); have n6_ := Aside0.mk (Kd.C_below (by repeat (first | (with_reducible exact HR118_2.out) | (with_reducible refine Kd.C_alloc ?_ _) | (with_reducible refine Kd.C_drewN ?_ _) | (with_reducible refine Kd.C_drew ?_) | exact HR118_2.out)) hb); have n7_ := Aside0.mk (below_step (by repeat (first | (with_reducible first | exact HB.out | apply below_alloc | apply pw_below_drewN | apply below_drew1) | exact HB.out)) hb); clear HO110; clear HO113; clear HO116; clear HL117_2; clear HL118_2; clear HR117_2; clear HR118_2; clear HB; have HO110 := n0_; have HO113 := n1_; have HO116 := n2_; have HL117_2 := n3_; have HL118_2 := n4_; have HR117_2 := n5_; have HR118_2 := n6_; have HB := n7_; clear n0_ n1_ n2_ n3_ n4_ n5_ n6_ n7_; (try clear hb); (try clear hb2); (try clear hk); (try clear hi)) | (go_at_call 21; (with_reducible refine (order_Fresh.calls _ _ t114 2 12 true _ ?side1 ?side2 A21.out).mono ?_); (case side1 => repeat (first | exact (Kd.V_reads' HO116.out).2.2 | (with_reducible refine Kd.C_alloc ?_ _) | (with_reducible refine Kd.C_drewN ?_ _) | (with_reducible refine Kd.C_drew ?_))); (case side2 => exact (Kd.V_reads' HO116.out).2.1); rintro e w31 ⟨rfl, hb⟩; have n0_ := Aside0.mk (Kd.V_below (by (with_reducible repeat (first | apply Kd.V_alloc | apply Kd.V_drewN | apply Kd.V_drew)); exact HO110.out) hb); have n1_ := Aside0.mk (Kd.V_below (by (with_reducible repeat (first | apply Kd.V_alloc | apply Kd.V_drewN | apply Kd.V_drew)); exact HO113.out) hb); have n2_ := Aside0.mk (Kd.V_below (by (with_reducible repeat (first | apply Kd.V_alloc | apply Kd.V_drewN | apply Kd.V_drew)); exact HO116.out) hb); have n3_ := Aside0.mk (Kd.V_below (by (with_reducible repeat (first | apply Kd.V_alloc | apply Kd.V_drewN | apply Kd.V_drew)); exact HL117_2.out) hb); have n4_ := Aside0.mk (Kd.V_below (by (with_reducible repeat (first | apply Kd.V_alloc | apply Kd.V_drewN | apply Kd.V_drew)); exact HL118_2.out) hb); have n5_ := Aside0.mk (Kd.C_below (by repeat (first | (with_reducible exact HR117_2.out) | (with_reducible refine Kd.C_alloc ?_ _) | (with_reducible refine Kd.C_drewN ?_ _) | (with_reducible refine Kd.C_drew ?_) | exact HR117_2.out)) hb); have n6_ := Aside0.mk (Kd.C_below (by repeat (first | (with_reducible exact HR118_2.out) | (with_reducible refine Kd.C_alloc ?_ _) | (with_reducible refine Kd.C_drewN ?_ _) | (with_reducible refine Kd.C_drew ?_) | exact HR118_2.out)) hb); have n7_ := Aside0.mk (below_step (by repeat (first | (with_reducible first | exact HB.out | apply below_alloc | apply pw_below_drewN | apply below_drew1) | exact HB.out)) hb); clear HO110; clear HO113; clear HO116; clear HL117_2; clear HL118_2; clear HR117_2; clear HR118_2; clear HB; have HO110 := n0_; have HO113 := n1_; have HO116 := n2_; have HL117_2 := n3_; have HL118_2 := n4_; have HR117_2 := n5_; have HR118_2 := n6_; have HB := n7_; clear n0_ n1_ n2_ n3_ n4_ n5_ n6_ n7_; (try clear hb); (try clear hb2); (try clear hk); (try clear hi)))
                    go_ret
                    exact ⟨by first | rfl | (simp [errW_none, errW_some] <;> rfl) | (simp [*, errW_none, errW_some] <;> rfl), by repeat (first | (with_reducible first | exact HB.out | apply below_alloc | apply pw_below_drewN | apply below_drew1) | exact HB.out)⟩
                  · replace c22 := Bool.eq_false_iff.mpr c22
                    subst c22
                    have H1 : ((order_Right.f k t114).bind fun t122 => (some t122)) = some r := by rw [if_neg (show ¬ (false = true) by decide)] at H; exact H
                    clear H
                    have H := H1
                    clear H1
                    replace H := Option.bind_eq_some_iff.mp H
                    obtain ⟨t122, A320, H⟩ := H
                    replace H : (some t122) = some r := H
                    have A32 := Aside0.mk A320
                    clear A320
                    obtain rfl := Option.some.inj H
                    go_enter Try.func16, Try.ntmps16
                    go_wp2_with (first | ((with_reducible refine gate_callee (f := 19) rfl ?_); refine goesL_ (some 3) rfl rfl Try.func19 (by kernel_rfl) rfl #[.slice none 0 0, .int .i64 2, .int .i64 1] rfl (by (try simp only [List.map_toArray, List.map_cons, List.map_nil]); first | done | rfl | (simp only [List.length_drop, List.length_take]; rfl)) ?_; (refine (order_Note.calls (fun k_ => False) _ _ ([] : List (S54)) 2 1 t108 _ ?side1 A1.out).mono ?_); (case side1 => exact Kd.V_nil _ _ _ _ _); rintro e w33 ⟨v109, rfl, ho0, hb⟩; refine ⟨_, rfl, ?_⟩; have n0_ := Aside0.mk (Kd.V_lower (Kd.V_mono (ok' := fun k_ => True) ho0 (fun k_ hk_ => trivial)) (below_size (by repeat (first | (with_reducible first | exact HB.out | apply below_alloc | apply pw_below_drewN | apply below_drew1) | exact HB.out)))); have n1_ := Aside0.mk (below_step (by repeat (first | (with_reducible first | exact HB.out | apply below_alloc | apply pw_below_drewN | apply below_drew1) | exact HB.out)) hb); clear HB; have HO110 := n0_; have HB := n1_; clear n0_ n1_; (try clear hb); (try clear hb2); (try clear hk); (try clear hi); (try clear ho0); obtain ⟨Ao34, co34, eo34⟩ := Kd.V_slice HO110.out; subst eo34) | ((with_reducible refine gate_callee (f := 19) rfl ?_); refine goesL_ (some 4) rfl rfl Try.func19 (by kernel_rfl) rfl #[.slice Ao34 t108.length co34, .int .i64 2, .int .i64 3] rfl (by (try simp only [List.map_toArray, List.map_cons, List.map_nil]); first | done | rfl | (simp only [List.length_drop, List.length_take]; rfl)) ?_; (with_reducible refine (order_Note.calls (fun k_ => True) _ _ t108 2 3 t111 _ ?side1 A2.out).mono ?_); (case side1 => exact HO110.out); rintro e w35 ⟨v112, rfl, ho0, hb⟩; refine ⟨_, rfl, ?_⟩; have n0_ := Aside0.mk (Kd.V_below (by (with_reducible repeat (first | apply Kd.V_alloc | apply Kd.V_drewN | apply Kd.V_drew)); exact HO110.out) hb); have n1_ := Aside0.mk (Kd.V_lower (Kd.V_mono (ok' := fun k_ => True) ho0 (fun k_ hk_ => trivial)) (below_size (by repeat (first | (with_reducible first | exact HB.out | apply below_alloc | apply pw_below_drewN | apply below_drew1) | exact HB.out)))); have n2_ := Aside0.mk (below_step (by repeat (first | (with_reducible first | exact HB.out | apply below_alloc | apply pw_below_drewN | apply below_drew1) | exact HB.out)) hb); clear HO110; clear HB; have HO110 := n0_; have HO113 := n1_; have HB := n2_; clear n0_ n1_ n2_; (try clear hb); (try clear hb2); (try clear hk); (try clear hi); (try clear ho0); obtain ⟨Ao36, co36, eo36⟩ := Kd.V_slice HO113.out; subst eo36) | ((with_reducible refine gate_callee (f := 19) rfl ?_); refine goesL_ (some 6) rfl rfl Try.func19 (by kernel_rfl) rfl #[.slice Ao36 t111.length co36, .int .i64 2, .int .i64 2] rfl (by (try simp only [List.map_toArray, List.map_cons, List.map_nil]); first | done | rfl | (simp only [List.length_drop, List.length_take]; rfl)) ?_; (with_reducible refine (order_Note.calls (fun k_ => True) _ _ t111 2 2 t114 _ ?side1 A3.out).mono ?_); (case side1 => exact HO113.out); rintro e w37 ⟨v115, rfl, ho0, hb⟩; refine ⟨_, rfl, ?_⟩; have n0_ := Aside0.mk (Kd.V_below (by (with_reducible repeat (first | apply Kd.V_alloc | apply Kd.V_drewN | apply Kd.V_drew)); exact HO110.out) hb); have n1_ := Aside0.mk (Kd.V_below (by (with_reducible repeat (first | apply Kd.V_alloc | apply Kd.V_drewN | apply Kd.V_drew)); exact HO113.out) hb); have n2_ := Aside0.mk (Kd.V_lower (Kd.V_mono (ok' := fun k_ => True) ho0 (fun k_ hk_ => trivial)) (below_size (by repeat (first | (with_reducible first | exact HB.out | apply below_alloc | apply pw_below_drewN | apply below_drew1) | exact HB.out)))); have n3_ := Aside0.mk (below_step (by repeat (first | (with_reducible first | exact HB.out | apply below_alloc | apply pw_below_drewN | apply below_drew1) | exact HB.out)) hb); clear HO110; clear HO113; clear HB; have HO110 := n0_; have HO113 := n1_; have HO116 := n2_; have HB := n3_; clear n0_ n1_ n2_ n3_; (try clear hb); (try clear hb2); (try clear hk); (try clear hi); (try clear ho0); have p117 : 0 ≤ (0 : Int) := (by omega); have q117 : 0 < (t111.length : Int) := of_decide_eq_true (by first | (with_reducible assumption) | assumption); obtain ⟨ad117, A117_2, c117_2, e117, hx117_0, hx117_1, hx117_2, hl117_2, hi117_2⟩ := at_T54 (Kd.V_reads' HO113.out).2.2 0 p117 q117; cases e117; obtain ⟨ce117, hce117, hMe117, hcc117⟩ := Kd.V_get HO113.out z54 0 p117 (by first | exact q117 | exact of_decide_eq_true (by first | (with_reducible assumption) | assumption) | (have e_ := (Kd.V_reads' HO113.out).1; omega)); obtain ⟨ua117_2, uc117_2, rfl, ul117_2, ge117_2⟩ := k54_openF hMe117; have hv117_2 := hcc117 2 _ rfl; rw [add_field _ _ 2 (by omega)] at hv117_2; replace hv117_2 := Option.some.inj (hv117_2.symm.trans hx117_2); injection hv117_2 with hva_ hvn_ hvc_; rw [hva_] at ge117_2; rw [hvc_] at ul117_2; have HL117_2 := Aside0.mk (show Kd.V (Kd.int .i64) 3 _ w.heap.size _ _ ((rd_T54 t111 0).f2) from Kd.V_mk ul117_2 ge117_2); clear hva_ hvn_ hvc_ ge117_2 ul117_2; clear hcc117 hce117; have qi117 : (0 < t111.length) = True := eq_true (by omega); (try rw [show ((0 : Int)).toNat = 0 from rfl] at hx117_0); (try rw [show 0 * 3 = 0 from rfl] at hx117_0); (try rw [Addr.add_zero'] at hx117_0); (try rw [show ((0 : Int)).toNat = 0 from rfl] at hx117_1); (try rw [show 0 * 3 = 0 from rfl] at hx117_1); (try rw [Addr.add_zero'] at hx117_1); (try rw [show ((0 : Int)).toNat = 0 from rfl] at hx117_2); (try rw [show 0 * 3 = 0 from rfl] at hx117_2); (try rw [Addr.add_zero'] at hx117_2); have HR117_2 := Aside0.mk hi117_2; have HC117_2 := Aside0.mk hl117_2; clear hi117_2 hl117_2; replace p117 := eq_true p117; replace q117 := eq_true q117; obtain ⟨Ao38, co38, eo38⟩ := Kd.V_slice HO116.out; subst eo38; have p118 : 0 ≤ (0 : Int) := (by omega); have q118 : 0 < (t114.length : Int) := of_decide_eq_true (by first | (with_reducible assumption) | assumption); obtain ⟨ad118, A118_2, c118_2, e118, hx118_0, hx118_1, hx118_2, hl118_2, hi118_2⟩ := at_T54 (Kd.V_reads' HO116.out).2.2 0 p118 q118; cases e118; obtain ⟨ce118, hce118, hMe118, hcc118⟩ := Kd.V_get HO116.out z54 0 p118 (by first | exact q118 | exact of_decide_eq_true (by first | (with_reducible assumption) | assumption) | (have e_ := (Kd.V_reads' HO116.out).1; omega)); obtain ⟨ua118_2, uc118_2, rfl, ul118_2, ge118_2⟩ := k54_openF hMe118; have hv118_2 := hcc118 2 _ rfl; rw [add_field _ _ 2 (by omega)] at hv118_2; replace hv118_2 := Option.some.inj (hv118_2.symm.trans hx118_2); injection hv118_2 with hva_ hvn_ hvc_; rw [hva_] at ge118_2; rw [hvc_] at ul118_2; have HL118_2 := Aside0.mk (show Kd.V (Kd.int .i64) 3 _ w.heap.size _ _ ((rd_T54 t114 0).f2) from Kd.V_mk ul118_2 ge118_2); clear hva_ hvn_ hvc_ ge118_2 ul118_2; clear hcc118 hce118; have qi118 : (0 < t114.length) = True := eq_true (by omega); (try rw [show ((0 : Int)).toNat = 0 from rfl] at hx118_0); (try rw [show 0 * 3 = 0 from rfl] at hx118_0); (try rw [Addr.add_zero'] at hx118_0); (try rw [show ((0 : Int)).toNat = 0 from rfl] at hx118_1); (try rw [show 0 * 3 = 0 from rfl] at hx118_1); (try rw [Addr.add_zero'] at hx118_1); (try rw [show ((0 : Int)).toNat = 0 from rfl] at hx118_2); (try rw [show 0 * 3 = 0 from rfl] at hx118_2); (try rw [Addr.add_zero'] at hx118_2); have HR118_2 := Aside0.mk hi118_2; have HC118_2 := Aside0.mk hl118_2; clear hi118_2 hl118_2; replace p118 := eq_true p118; replace q118 := eq_true q118) | (go_at_call 21; (with_reducible refine (order_Fresh.calls _ _ t114 2 2 false _ ?side1 ?side2 A10.out).mono ?_); (case side1 => repeat (first | exact (Kd.V_reads' HO116.out).2.2 | (with_reducible refine Kd.C_alloc ?_ _) | (with_reducible refine Kd.C_drewN ?_ _) | (with_reducible refine Kd.C_drew ?_))); (case side2 => exact (Kd.V_reads' HO116.out).2.1); rintro e w39 ⟨rfl, hb⟩; have n0_ := Aside0.mk (Kd.V_below (by (with_reducible repeat (first | apply Kd.V_alloc | apply Kd.V_drewN | apply Kd.V_drew)); exact HO110.out) hb); have n1_ := Aside0.mk (Kd.V_below (by (with_reducible repeat (first | apply Kd.V_alloc | apply Kd.V_drewN | apply Kd.V_drew)); exact HO113.out) hb); have n2_ := Aside0.mk (Kd.V_below (by (with_reducible repeat (first | apply Kd.V_alloc | apply Kd.V_drewN | apply Kd.V_drew)); exact HO116.out) hb); have n3_ := Aside0.mk (Kd.V_below (by (with_reducible repeat (first | apply Kd.V_alloc | apply Kd.V_drewN | apply Kd.V_drew)); exact HL117_2.out) hb); have n4_ := Aside0.mk (Kd.V_below (by (with_reducible repeat (first | apply Kd.V_alloc | apply Kd.V_drewN | apply Kd.V_drew)); exact HL118_2.out) hb); have n5_ := Aside0.mk (Kd.C_below (by repeat (first | (with_reducible exact HR117_2.out) | (with_reducible refine Kd.C_alloc ?_ _) | (with_reducible refine Kd.C_drewN ?_ _) | (with_reducible refine Kd.C_drew ?_) | exact HR117_2.out)) hb); have n6_ := Aside0.mk (Kd.C_below (by repeat (first | (with_reducible exact HR118_2.out) | (with_reducible refine Kd.C_alloc ?_ _) | (with_reducible refine Kd.C_drewN ?_ _) | (with_reducible refine Kd.C_drew ?_) | exact HR118_2.out)) hb); have n7_ := Aside0.mk (below_step (by repeat (first | (with_reducible first | exact HB.out | apply below_alloc | apply pw_below_drewN | apply below_drew1) | exact HB.out)) hb); clear HO110; clear HO113; clear HO116; clear HL117_2; clear HL118_2; clear HR117_2; clear HR118_2; clear HB; have HO110 := n0_; have HO113 := n1_; have HO116 := n2_; have HL117_2 := n3_; have HL118_2 := n4_; have HR117_2 := n5_; have HR118_2 := n6_; have HB := n7_; clear n0_ n1_ n2_ n3_ n4_ n5_ n6_ n7_; (try clear hb); (try clear hb2); (try clear hk); (try clear hi)) | (go_at_call 21; (with_reducible refine (order_Fresh.calls _ _ t114 2 4 true _ ?side1 ?side2 A19.out).mono ?_); (case side1 => repeat (first | exact (Kd.V_reads' HO116.out).2.2 | (with_reducible refine Kd.C_alloc ?_ _) | (with_reducible refine Kd.C_drewN ?_ _) | (with_reducible refine Kd.C_drew ?_))); (case side2 => exact (Kd.V_reads' HO116.out).2.1); rintro e w40 ⟨rfl, hb⟩; have n0_ := Aside0.mk (Kd.V_below (by (with_reducible repeat (first | apply Kd.V_alloc | apply Kd.V_drewN | apply Kd.V_drew)); exact HO110.out) hb); have n1_ := Aside0.mk (Kd.V_below (by (with_reducible repeat (first | apply Kd.V_alloc | apply Kd.V_drewN | apply Kd.V_drew)); exact HO113.out) hb); have n2_ := Aside0.mk (Kd.V_below (by (with_reducible repeat (first | apply Kd.V_alloc | apply Kd.V_drewN | apply Kd.V_drew)); exact HO116.out) hb); have n3_ := Aside0.mk (Kd.V_below (by (with_reducible repeat (first | apply Kd.V_alloc | apply Kd.V_drewN | apply Kd.V_drew)); exact HL117_2.out) hb); have n4_ := Aside0.mk (Kd.V_below (by (with_reducible repeat (first | apply Kd.V_alloc | apply Kd.V_drewN | apply Kd.V_drew)); exact HL118_2.out) hb); have n5_ := Aside0.mk (Kd.C_below (by repeat (first | (with_reducible exact HR117_2.out) | (with_reducible refine Kd.C_alloc ?_ _) | (with_reducible refine Kd.C_drewN ?_ _) | (with_reducible refine Kd.C_drew ?_) | exact HR117_2.out)) hb); have n6_ := Aside0.mk (Kd.C_below (by repeat (first | (with_reducible exact HR118_2.out) | (with_reducible refine Kd.C_alloc ?_ _) | (with_reducible refine Kd.C_drewN ?_ _) | (with_reducible refine Kd.C_drew ?_) | exact HR118_2.out)) hb); have n7_ := Aside0.mk (below_step (by repeat (first | (with_reducible first | exact HB.out | apply below_alloc | apply pw_below_drewN | apply below_drew1) | exact HB.out)) hb); clear HO110; clear HO113; clear HO116; clear HL117_2; clear HL118_2; clear HR117_2; clear HR118_2; clear HB; have HO110 := n0_; have HO113 := n1_; have HO116 := n2_; have HL117_2 := n3_; have HL118_2 := n4_; have HR117_2 := n5_; have HR118_2 := n6_; have HB := n7_; clear n0_ n1_ n2_ n3_ n4_ n5_ n6_ n7_; (try clear hb); (try clear hb2); (try clear hk); (try clear hi)) | (go_at_call 21; (with_reducible refine (order_Fresh.calls _ _ t114 2 12 false _ ?side1 ?side2 A21.out).mono ?_); (case side1 => repeat (first | exact (Kd.V_reads' HO116.out).2.2 | (with_reducible refine Kd.C_alloc ?_ _) | (with_reducible refine Kd.C_drewN ?_ _) | (with_reducible refine Kd.C_drew ?_))); (case side2 => exact (Kd.V_reads' HO116.out).2.1); rintro e w41 ⟨rfl, hb⟩; have n0_ := Aside0.mk (Kd.V_below (by (with_reducible repeat (first | apply Kd.V_alloc | apply Kd.V_drewN | apply Kd.V_drew)); exact HO110.out) hb); have n1_ := Aside0.mk (Kd.V_below (by (with_reducible repeat (first | apply Kd.V_alloc | apply Kd.V_drewN | apply Kd.V_drew)); exact HO113.out) hb); have n2_ := Aside0.mk (Kd.V_below (by (with_reducible repeat (first | apply Kd.V_alloc | apply Kd.V_drewN | apply Kd.V_drew)); exact HO116.out) hb); have n3_ := Aside0.mk (Kd.V_below (by (with_reducible repeat (first | apply Kd.V_alloc | apply Kd.V_drewN | apply Kd.V_drew)); exact HL117_2.out) hb); have n4_ := Aside0.mk (Kd.V_below (by (with_reducible repeat (first | apply Kd.V_alloc | apply Kd.V_drewN | apply Kd.V_drew)); exact HL118_2.out) hb); have n5_ := Aside0.mk (Kd.C_below (by repeat (first | (with_reducible exact HR117_2.out) | (with_reducible refine Kd.C_alloc ?_ _) | (with_reducible refine Kd.C_drewN ?_ _) | (with_reducible refine Kd.C_drew ?_) | exact HR117_2.out)) hb); have n6_ := Aside0.mk (Kd.C_below (by repeat (first | (with_reducible exact HR118_2.out) | (with_reducible refine Kd.C_alloc ?_ _) | (with_reducible refine Kd.C_drewN ?_ _) | (with_reducible refine Kd.C_drew ?_) | exact HR118_2.out)) hb); have n7_ := Aside0.mk (below_step (by repeat (first | (with_reducible first | exact HB.out | apply below_alloc | apply pw_below_drewN | apply below_drew1) | exact HB.out)) hb); clear HO110; clear HO113; clear HO116; clear HL117_2; clear HL118_2; clear HR117_2; clear HR118_2; clear HB; have HO110 := n0_; have HO113 := n1_; have HO116 := n2_; have HL117_2 := n3_; have HL118_2 := n4_; have HR117_2 := n5_; have HR118_2 := n6_; have HB := n7_; clear n0_ n1_ n2_ n3_ n4_ n5_ n6_ n7_; (try clear hb); (try clear hb2); (try clear hk); (try clear hi)) | (go_at_call 23; (with_reducible refine (order_Right.calls k _ _ t114 t122 _ ?side1 ?side2 A32.out).mono ?_); (case side1 => repeat (first | exact (Kd.V_reads' HO116.out).2.2 | (with_reducible refine Kd.C_alloc ?_ _) | (with_reducible refine Kd.C_drewN ?_ _) | (with_reducible refine Kd.C_drew ?_))); (case side2 => exact (Kd.V_reads' HO116.out).2.1); rintro e w42 ⟨rfl, hb⟩; have n0_ := Aside0.mk (Kd.V_below (by (with_reducible repeat (first | apply Kd.V_alloc | apply Kd.V_drewN | apply Kd.V_drew)); exact HO110.out) hb); have n1_ := Aside0.mk (Kd.V_below (by (with_reducible repeat (first | apply Kd.V_alloc | apply Kd.V_drewN | apply Kd.V_drew)); exact HO113.out) hb); have n2_ := Aside0.mk (Kd.V_below (by (with_reducible repeat (first | apply Kd.V_alloc | apply Kd.V_drewN | apply Kd.V_drew)); exact HO116.out) hb); have n3_ := Aside0.mk (Kd.V_below (by (with_reducible repeat (first | apply Kd.V_alloc | apply Kd.V_drewN | apply Kd.V_drew)); exact HL117_2.out) hb); have n4_ := Aside0.mk (Kd.V_below (by (with_reducible repeat (first | apply Kd.V_alloc | apply Kd.V_drewN | apply Kd.V_drew)); exact HL118_2.out) hb); have n5_ := Aside0.mk (Kd.C_below (by repeat (first | (with_reducible exact HR117_2.out) | (with_reducible refine Kd.C_alloc ?_ _) | (with_reducible refine Kd.C_drewN ?_ _) | (with_reducible refine Kd.C_drew ?_) | exact HR117_2.out)) hb); have n6_ := Aside0.mk (Kd.C_below (by repeat (first | (with_reducible exact HR118_2.out) | (with_reducible refine Kd.C_alloc ?_ _) | (with_reducible refine Kd.C_drewN ?_ _) | (with_reducible refine Kd.C_drew ?_) | exact HR118_2.out)) hb); have n7_ := Aside0.mk (below_step (by repeat (first | (with_reducible first | exact HB.out | apply below_alloc | apply pw_below_drewN | apply below_drew1) | exact HB.out)) hb); clear HO110; clear HO113; clear HO116; clear HL117_2; clear HL118_2; clear HR117_2; clear HR118_2; clear HB; have HO110 := n0_; have HO113 := n1_; have HO116 := n2_; have HL117_2 := n3_; have HL118_2 := n4_; have HR117_2 := n5_; have HR118_2 := n6_; have HB := n7_; clear n0_ n1_ n2_ n3_ n4_ n5_ n6_ n7_; (try clear hb); (try clear hb2); (try clear hk); (try clear hi)))
                    go_ret
                    exact ⟨by first | rfl | (simp [errW_none, errW_some] <;> rfl) | (simp [*, errW_none, errW_some] <;> rfl), by repeat (first | (with_reducible first | exact HB.out | apply below_alloc | apply pw_below_drewN | apply below_drew1) | exact HB.out)⟩
                · replace c20 := Bool.eq_false_iff.mpr c20
                  subst c20
                  have H1 : (some false) = some r := by rw [if_neg (show ¬ (false = true) by decide)] at H; exact H
                  clear H
                  have H := H1
                  clear H1
                  obtain rfl := Option.some.inj H
                  go_enter Try.func16, Try.ntmps16
                  go_wp2_with (first | ((with_reducible refine gate_callee (f := 19) rfl ?_); refine goesL_ (some 3) rfl rfl Try.func19 (by kernel_rfl) rfl #[.slice none 0 0, .int .i64 2, .int .i64 1] rfl (by (try simp only [List.map_toArray, List.map_cons, List.map_nil]); first | done | rfl | (simp only [List.length_drop, List.length_take]; rfl)) ?_; (refine (order_Note.calls (fun k_ => False) _ _ ([] : List (S54)) 2 1 t108 _ ?side1 A1.out).mono ?_); (case side1 => exact Kd.V_nil _ _ _ _ _); rintro e w43 ⟨v109, rfl, ho0, hb⟩; refine ⟨_, rfl, ?_⟩; have n0_ := Aside0.mk (Kd.V_lower (Kd.V_mono (ok' := fun k_ => True) ho0 (fun k_ hk_ => trivial)) (below_size (by repeat (first | (with_reducible first | exact HB.out | apply below_alloc | apply pw_below_drewN | apply below_drew1) | exact HB.out)))); have n1_ := Aside0.mk (below_step (by repeat (first | (with_reducible first | exact HB.out | apply below_alloc | apply pw_below_drewN | apply below_drew1) | exact HB.out)) hb); clear HB; have HO110 := n0_; have HB := n1_; clear n0_ n1_; (try clear hb); (try clear hb2); (try clear hk); (try clear hi); (try clear ho0); obtain ⟨Ao44, co44, eo44⟩ := Kd.V_slice HO110.out; subst eo44) | ((with_reducible refine gate_callee (f := 19) rfl ?_); refine goesL_ (some 4) rfl rfl Try.func19 (by kernel_rfl) rfl #[.slice Ao44 t108.length co44, .int .i64 2, .int .i64 3] rfl (by (try simp only [List.map_toArray, List.map_cons, List.map_nil]); first | done | rfl | (simp only [List.length_drop, List.length_take]; rfl)) ?_; (with_reducible refine (order_Note.calls (fun k_ => True) _ _ t108 2 3 t111 _ ?side1 A2.out).mono ?_); (case side1 => exact HO110.out); rintro e w45 ⟨v112, rfl, ho0, hb⟩; refine ⟨_, rfl, ?_⟩; have n0_ := Aside0.mk (Kd.V_below (by (with_reducible repeat (first | apply Kd.V_alloc | apply Kd.V_drewN | apply Kd.V_drew)); exact HO110.out) hb); have n1_ := Aside0.mk (Kd.V_lower (Kd.V_mono (ok' := fun k_ => True) ho0 (fun k_ hk_ => trivial)) (below_size (by repeat (first | (with_reducible first | exact HB.out | apply below_alloc | apply pw_below_drewN | apply below_drew1) | exact HB.out)))); have n2_ := Aside0.mk (below_step (by repeat (first | (with_reducible first | exact HB.out | apply below_alloc | apply pw_below_drewN | apply below_drew1) | exact HB.out)) hb); clear HO110; clear HB; have HO110 := n0_; have HO113 := n1_; have HB := n2_; clear n0_ n1_ n2_; (try clear hb); (try clear hb2); (try clear hk); (try clear hi); (try clear ho0); obtain ⟨Ao46, co46, eo46⟩ := Kd.V_slice HO113.out; subst eo46) | ((with_reducible refine gate_callee (f := 19) rfl ?_); refine goesL_ (some 6) rfl rfl Try.func19 (by kernel_rfl) rfl #[.slice Ao46 t111.length co46, .int .i64 2, .int .i64 2] rfl (by (try simp only [List.map_toArray, List.map_cons, List.map_nil]); first | done | rfl | (simp only [List.length_drop, List.length_take]; rfl)) ?_; (with_reducible refine (order_Note.calls (fun k_ => True) _ _ t111 2 2 t114 _ ?side1 A3.out).mono ?_); (case side1 => exact HO113.out); rintro e w47 ⟨v115, rfl, ho0, hb⟩; refine ⟨_, rfl, ?_⟩; have n0_ := Aside0.mk (Kd.V_below (by (with_reducible repeat (first | apply Kd.V_alloc | apply Kd.V_drewN | apply Kd.V_drew)); exact HO110.out) hb); have n1_ := Aside0.mk (Kd.V_below (by (with_reducible repeat (first | apply Kd.V_alloc | apply Kd.V_drewN | apply Kd.V_drew)); exact HO113.out) hb); have n2_ := Aside0.mk (Kd.V_lower (Kd.V_mono (ok' := fun k_ => True) ho0 (fun k_ hk_ => trivial)) (below_size (by repeat (first | (with_reducible first | exact HB.out | apply below_alloc | apply pw_below_drewN | apply below_drew1) | exact HB.out)))); have n3_ := Aside0.mk (below_step (by repeat (first | (with_reducible first | exact HB.out | apply below_alloc | apply pw_below_drewN | apply below_drew1) | exact HB.out)) hb); clear HO110; clear HO113; clear HB; have HO110 := n0_; have HO113 := n1_; have HO116 := n2_; have HB := n3_; clear n0_ n1_ n2_ n3_; (try clear hb); (try clear hb2); (try clear hk); (try clear hi); (try clear ho0); have p117 : 0 ≤ (0 : Int) := (by omega); have q117 : 0 < (t111.length : Int) := of_decide_eq_true (by first | (with_reducible assumption) | assumption); obtain ⟨ad117, A117_2, c117_2, e117, hx117_0, hx117_1, hx117_2, hl117_2, hi117_2⟩ := at_T54 (Kd.V_reads' HO113.out).2.2 0 p117 q117; cases e117; obtain ⟨ce117, hce117, hMe117, hcc117⟩ := Kd.V_get HO113.out z54 0 p117 (by first | exact q117 | exact of_decide_eq_true (by first | (with_reducible assumption) | assumption) | (have e_ := (Kd.V_reads' HO113.out).1; omega)); obtain ⟨ua117_2, uc117_2, rfl, ul117_2, ge117_2⟩ := k54_openF hMe117; have hv117_2 := hcc117 2 _ rfl; rw [add_field _ _ 2 (by omega)] at hv117_2; replace hv117_2 := Option.some.inj (hv117_2.symm.trans hx117_2); injection hv117_2 with hva_ hvn_ hvc_; rw [hva_] at ge117_2; rw [hvc_] at ul117_2; have HL117_2 := Aside0.mk (show Kd.V (Kd.int .i64) 3 _ w.heap.size _ _ ((rd_T54 t111 0).f2) from Kd.V_mk ul117_2 ge117_2); clear hva_ hvn_ hvc_ ge117_2 ul117_2; clear hcc117 hce117; have qi117 : (0 < t111.length) = True := eq_true (by omega); (try rw [show ((0 : Int)).toNat = 0 from rfl] at hx117_0); (try rw [show 0 * 3 = 0 from rfl] at hx117_0); (try rw [Addr.add_zero'] at hx117_0); (try rw [show ((0 : Int)).toNat = 0 from rfl] at hx117_1); (try rw [show 0 * 3 = 0 from rfl] at hx117_1); (try rw [Addr.add_zero'] at hx117_1); (try rw [show ((0 : Int)).toNat = 0 from rfl] at hx117_2); (try rw [show 0 * 3 = 0 from rfl] at hx117_2); (try rw [Addr.add_zero'] at hx117_2); have HR117_2 := Aside0.mk hi117_2; have HC117_2 := Aside0.mk hl117_2; clear hi117_2 hl117_2; replace p117 := eq_true p117; replace q117 := eq_true q117; obtain ⟨Ao48, co48, eo48⟩ := Kd.V_slice HO116.out; subst eo48; have p118 : 0 ≤ (0 : Int) := (by omega); have q118 : 0 < (t114.length : Int) := of_decide_eq_true (by first | (with_reducible assumption) | assumption); obtain ⟨ad118, A118_2, c118_2, e118, hx118_0, hx118_1, hx118_2, hl118_2, hi118_2⟩ := at_T54 (Kd.V_reads' HO116.out).2.2 0 p118 q118; cases e118; obtain ⟨ce118, hce118, hMe118, hcc118⟩ := Kd.V_get HO116.out z54 0 p118 (by first | exact q118 | exact of_decide_eq_true (by first | (with_reducible assumption) | assumption) | (have e_ := (Kd.V_reads' HO116.out).1; omega)); obtain ⟨ua118_2, uc118_2, rfl, ul118_2, ge118_2⟩ := k54_openF hMe118; have hv118_2 := hcc118 2 _ rfl; rw [add_field _ _ 2 (by omega)] at hv118_2; replace hv118_2 := Option.some.inj (hv118_2.symm.trans hx118_2); injection hv118_2 with hva_ hvn_ hvc_; rw [hva_] at ge118_2; rw [hvc_] at ul118_2; have HL118_2 := Aside0.mk (show Kd.V (Kd.int .i64) 3 _ w.heap.size _ _ ((rd_T54 t114 0).f2) from Kd.V_mk ul118_2 ge118_2); clear hva_ hvn_ hvc_ ge118_2 ul118_2; clear hcc118 hce118; have qi118 : (0 < t114.length) = True := eq_true (by omega); (try rw [show ((0 : Int)).toNat = 0 from rfl] at hx118_0); (try rw [show 0 * 3 = 0 from rfl] at hx118_0); (try rw [Addr.add_zero'] at hx118_0); (try rw [show ((0 : Int)).toNat = 0 from rfl] at hx118_1); (try rw [show 0 * 3 = 0 from rfl] at hx118_1); (try rw [Addr.add_zero'] at hx118_1); (try rw [show ((0 : Int)).toNat = 0 from rfl] at hx118_2); (try rw [show 0 * 3 = 0 from rfl] at hx118_2); (try rw [Addr.add_zero'] at hx118_2); have HR118_2 := Aside0.mk hi118_2; have HC118_2 := Aside0.mk hl118_2; clear hi118_2 hl118_2; replace p118 := eq_true p118; replace q118 := eq_true q118) | (go_at_call 21; (with_reducible refine (order_Fresh.calls _ _ t114 2 2 false _ ?side1 ?side2 A10.out).mono ?_); (case side1 => repeat (first | exact (Kd.V_reads' HO116.out).2.2 | (with_reducible refine Kd.C_alloc ?_ _) | (with_reducible refine Kd.C_drewN ?_ _) | (with_reducible refine Kd.C_drew ?_))); (case side2 => exact (Kd.V_reads' HO116.out).2.1); rintro e w49 ⟨rfl, hb⟩; have n0_ := Aside0.mk (Kd.V_below (by (with_reducible repeat (first | apply Kd.V_alloc | apply Kd.V_drewN | apply Kd.V_drew)); exact HO110.out) hb); have n1_ := Aside0.mk (Kd.V_below (by (with_reducible repeat (first | apply Kd.V_alloc | apply Kd.V_drewN | apply Kd.V_drew)); exact HO113.out) hb); have n2_ := Aside0.mk (Kd.V_below (by (with_reducible repeat (first | apply Kd.V_alloc | apply Kd.V_drewN | apply Kd.V_drew)); exact HO116.out) hb); have n3_ := Aside0.mk (Kd.V_below (by (with_reducible repeat (first | apply Kd.V_alloc | apply Kd.V_drewN | apply Kd.V_drew)); exact HL117_2.out) hb); have n4_ := Aside0.mk (Kd.V_below (by (with_reducible repeat (first | apply Kd.V_alloc | apply Kd.V_drewN | apply Kd.V_drew)); exact HL118_2.out) hb); have n5_ := Aside0.mk (Kd.C_below (by repeat (first | (with_reducible exact HR117_2.out) | (with_reducible refine Kd.C_alloc ?_ _) | (with_reducible refine Kd.C_drewN ?_ _) | (with_reducible refine Kd.C_drew ?_) | exact HR117_2.out)) hb); have n6_ := Aside0.mk (Kd.C_below (by repeat (first | (with_reducible exact HR118_2.out) | (with_reducible refine Kd.C_alloc ?_ _) | (with_reducible refine Kd.C_drewN ?_ _) | (with_reducible refine Kd.C_drew ?_) | exact HR118_2.out)) hb); have n7_ := Aside0.mk (below_step (by repeat (first | (with_reducible first | exact HB.out | apply below_alloc | apply pw_below_drewN | apply below_drew1) | exact HB.out)) hb); clear HO110; clear HO113; clear HO116; clear HL117_2; clear HL118_2; clear HR117_2; clear HR118_2; clear HB; have HO110 := n0_; have HO113 := n1_; have HO116 := n2_; have HL117_2 := n3_; have HL118_2 := n4_; have HR117_2 := n5_; have HR118_2 := n6_; have HB := n7_; clear n0_ n1_ n2_ n3_ n4_ n5_ n6_ n7_; (try clear hb); (try clear hb2); (try clear hk); (try clear hi)) | (go_at_call 21; (with_reducible refine (order_Fresh.calls _ _ t114 2 4 false _ ?side1 ?side2 A19.out).mono ?_); (case side1 => repeat (first | exact (Kd.V_reads' HO116.out).2.2 | (with_reducible refine Kd.C_alloc ?_ _) | (with_reducible refine Kd.C_drewN ?_ _) | (with_reducible refine Kd.C_drew ?_))); (case side2 => exact (Kd.V_reads' HO116.out).2.1); rintro e w50 ⟨rfl, hb⟩; have n0_ := Aside0.mk (Kd.V_below (by (with_reducible repeat (first | apply Kd.V_alloc | apply Kd.V_drewN | apply Kd.V_drew)); exact HO110.out) hb); have n1_ := Aside0.mk (Kd.V_below (by (with_reducible repeat (first | apply Kd.V_alloc | apply Kd.V_drewN | apply Kd.V_drew)); exact HO113.out) hb); have n2_ := Aside0.mk (Kd.V_below (by (with_reducible repeat (first | apply Kd.V_alloc | apply Kd.V_drewN | apply Kd.V_drew)); exact HO116.out) hb); have n3_ := Aside0.mk (Kd.V_below (by (with_reducible repeat (first | apply Kd.V_alloc | apply Kd.V_drewN | apply Kd.V_drew)); exact HL117_2.out) hb); have n4_ := Aside0.mk (Kd.V_below (by (with_reducible repeat (first | apply Kd.V_alloc | apply Kd.V_drewN | apply Kd.V_drew)); exact HL118_2.out) hb); have n5_ := Aside0.mk (Kd.C_below (by repeat (first | (with_reducible exact HR117_2.out) | (with_reducible refine Kd.C_alloc ?_ _) | (with_reducible refine Kd.C_drewN ?_ _) | (with_reducible refine Kd.C_drew ?_) | exact HR117_2.out)) hb); have n6_ := Aside0.mk (Kd.C_below (by repeat (first | (with_reducible exact HR118_2.out) | (with_reducible refine Kd.C_alloc ?_ _) | (with_reducible refine Kd.C_drewN ?_ _) | (with_reducible refine Kd.C_drew ?_) | exact HR118_2.out)) hb); have n7_ := Aside0.mk (below_step (by repeat (first | (with_reducible first | exact HB.out | apply below_alloc | apply pw_below_drewN | apply below_drew1) | exact HB.out)) hb); clear HO110; clear HO113; clear HO116; clear HL117_2; clear HL118_2; clear HR117_2; clear HR118_2; clear HB; have HO110 := n0_; have HO113 := n1_; have HO116 := n2_; have HL117_2 := n3_; have HL118_2 := n4_; have HR117_2 := n5_; have HR118_2 := n6_; have HB := n7_; clear n0_ n1_ n2_ n3_ n4_ n5_ n6_ n7_; (try clear hb); (try clear hb2); (try clear hk); (try clear hi)))
                  go_ret
                  exact ⟨by first | rfl | (simp [errW_none, errW_some] <;> rfl) | (simp [*, errW_none, errW_some] <;> rfl), by repeat (first | (with_reducible first | exact HB.out | apply below_alloc | apply pw_below_drewN | apply below_drew1) | exact HB.out)⟩
            · rw [if_neg c9] at H
              have c9b0 : (((rd_T54 t114 0).f1) == 3) = false := beq_eq_false_iff_ne.mpr c9
              have c9b1 : (((rd_T54 t114 0).f1) != 3) = true := bne_iff_ne.mpr c9
              obtain rfl := Option.some.inj H
              go_enter Try.func16, Try.ntmps16
              go_wp2_with (first | ((with_reducible refine gate_callee (f := 19) rfl ?_); refine goesL_ (some 3) rfl rfl Try.func19 (by kernel_rfl) rfl #[.slice none 0 0, .int .i64 2, .int .i64 1] rfl (by (try simp only [List.map_toArray, List.map_cons, List.map_nil]); first | done | rfl | (simp only [List.length_drop, List.length_take]; rfl)) ?_; (refine (order_Note.calls (fun k_ => False) _ _ ([] : List (S54)) 2 1 t108 _ ?side1 A1.out).mono ?_); (case side1 => exact Kd.V_nil _ _ _ _ _); rintro e w51 ⟨v109, rfl, ho0, hb⟩; refine ⟨_, rfl, ?_⟩; have n0_ := Aside0.mk (Kd.V_lower (Kd.V_mono (ok' := fun k_ => True) ho0 (fun k_ hk_ => trivial)) (below_size (by repeat (first | (with_reducible first | exact HB.out | apply below_alloc | apply pw_below_drewN | apply below_drew1) | exact HB.out)))); have n1_ := Aside0.mk (below_step (by repeat (first | (with_reducible first | exact HB.out | apply below_alloc | apply pw_below_drewN | apply below_drew1) | exact HB.out)) hb); clear HB; have HO110 := n0_; have HB := n1_; clear n0_ n1_; (try clear hb); (try clear hb2); (try clear hk); (try clear hi); (try clear ho0); obtain ⟨Ao52, co52, eo52⟩ := Kd.V_slice HO110.out; subst eo52) | ((with_reducible refine gate_callee (f := 19) rfl ?_); refine goesL_ (some 4) rfl rfl Try.func19 (by kernel_rfl) rfl #[.slice Ao52 t108.length co52, .int .i64 2, .int .i64 3] rfl (by (try simp only [List.map_toArray, List.map_cons, List.map_nil]); first | done | rfl | (simp only [List.length_drop, List.length_take]; rfl)) ?_; (with_reducible refine (order_Note.calls (fun k_ => True) _ _ t108 2 3 t111 _ ?side1 A2.out).mono ?_); (case side1 => exact HO110.out); rintro e w53 ⟨v112, rfl, ho0, hb⟩; refine ⟨_, rfl, ?_⟩; have n0_ := Aside0.mk (Kd.V_below (by (with_reducible repeat (first | apply Kd.V_alloc | apply Kd.V_drewN | apply Kd.V_drew)); exact HO110.out) hb); have n1_ := Aside0.mk (Kd.V_lower (Kd.V_mono (ok' := fun k_ => True) ho0 (fun k_ hk_ => trivial)) (below_size (by repeat (first | (with_reducible first | exact HB.out | apply below_alloc | apply pw_below_drewN | apply below_drew1) | exact HB.out)))); have n2_ := Aside0.mk (below_step (by repeat (first | (with_reducible first | exact HB.out | apply below_alloc | apply pw_below_drewN | apply below_drew1) | exact HB.out)) hb); clear HO110; clear HB; have HO110 := n0_; have HO113 := n1_; have HB := n2_; clear n0_ n1_ n2_; (try clear hb); (try clear hb2); (try clear hk); (try clear hi); (try clear ho0); obtain ⟨Ao54, co54, eo54⟩ := Kd.V_slice HO113.out; subst eo54) | ((with_reducible refine gate_callee (f := 19) rfl ?_); refine goesL_ (some 6) rfl rfl Try.func19 (by kernel_rfl) rfl #[.slice Ao54 t111.length co54, .int .i64 2, .int .i64 2] rfl (by (try simp only [List.map_toArray, List.map_cons, List.map_nil]); first | done | rfl | (simp only [List.length_drop, List.length_take]; rfl)) ?_; (with_reducible refine (order_Note.calls (fun k_ => True) _ _ t111 2 2 t114 _ ?side1 A3.out).mono ?_); (case side1 => exact HO113.out); rintro e w55 ⟨v115, rfl, ho0, hb⟩; refine ⟨_, rfl, ?_⟩; have n0_ := Aside0.mk (Kd.V_below (by (with_reducible repeat (first | apply Kd.V_alloc | apply Kd.V_drewN | apply Kd.V_drew)); exact HO110.out) hb); have n1_ := Aside0.mk (Kd.V_below (by (with_reducible repeat (first | apply Kd.V_alloc | apply Kd.V_drewN | apply Kd.V_drew)); exact HO113.out) hb); have n2_ := Aside0.mk (Kd.V_lower (Kd.V_mono (ok' := fun k_ => True) ho0 (fun k_ hk_ => trivial)) (below_size (by repeat (first | (with_reducible first | exact HB.out | apply below_alloc | apply pw_below_drewN | apply below_drew1) | exact HB.out)))); have n3_ := Aside0.mk (below_step (by repeat (first | (with_reducible first | exact HB.out | apply below_alloc | apply pw_below_drewN | apply below_drew1) | exact HB.out)) hb); clear HO110; clear HO113; clear HB; have HO110 := n0_; have HO113 := n1_; have HO116 := n2_; have HB := n3_; clear n0_ n1_ n2_ n3_; (try clear hb); (try clear hb2); (try clear hk); (try clear hi); (try clear ho0); have p117 : 0 ≤ (0 : Int) := (by omega); have q117 : 0 < (t111.length : Int) := of_decide_eq_true (by first | (with_reducible assumption) | assumption); obtain ⟨ad117, A117_2, c117_2, e117, hx117_0, hx117_1, hx117_2, hl117_2, hi117_2⟩ := at_T54 (Kd.V_reads' HO113.out).2.2 0 p117 q117; cases e117; obtain ⟨ce117, hce117, hMe117, hcc117⟩ := Kd.V_get HO113.out z54 0 p117 (by first | exact q117 | exact of_decide_eq_true (by first | (with_reducible assumption) | assumption) | (have e_ := (Kd.V_reads' HO113.out).1; omega)); obtain ⟨ua117_2, uc117_2, rfl, ul117_2, ge117_2⟩ := k54_openF hMe117; have hv117_2 := hcc117 2 _ rfl; rw [add_field _ _ 2 (by omega)] at hv117_2; replace hv117_2 := Option.some.inj (hv117_2.symm.trans hx117_2); injection hv117_2 with hva_ hvn_ hvc_; rw [hva_] at ge117_2; rw [hvc_] at ul117_2; have HL117_2 := Aside0.mk (show Kd.V (Kd.int .i64) 3 _ w.heap.size _ _ ((rd_T54 t111 0).f2) from Kd.V_mk ul117_2 ge117_2); clear hva_ hvn_ hvc_ ge117_2 ul117_2; clear hcc117 hce117; have qi117 : (0 < t111.length) = True := eq_true (by omega); (try rw [show ((0 : Int)).toNat = 0 from rfl] at hx117_0); (try rw [show 0 * 3 = 0 from rfl] at hx117_0); (try rw [Addr.add_zero'] at hx117_0); (try rw [show ((0 : Int)).toNat = 0 from rfl] at hx117_1); (try rw [show 0 * 3 = 0 from rfl] at hx117_1); (try rw [Addr.add_zero'] at hx117_1); (try rw [show ((0 : Int)).toNat = 0 from rfl] at hx117_2); (try rw [show 0 * 3 = 0 from rfl] at hx117_2); (try rw [Addr.add_zero'] at hx117_2); have HR117_2 := Aside0.mk hi117_2; have HC117_2 := Aside0.mk hl117_2; clear hi117_2 hl117_2; replace p117 := eq_true p117; replace q117 := eq_true q117; obtain ⟨Ao56, co56, eo56⟩ := Kd.V_slice HO116.out; subst eo56; have p118 : 0 ≤ (0 : Int) := (by omega); have q118 : 0 < (t114.length : Int) := of_decide_eq_true (by first | (with_reducible assumption) | assumption); obtain ⟨ad118, A118_2, c118_2, e118, hx118_0, hx118_1, hx118_2, hl118_2, hi118_2⟩ := at_T54 (Kd.V_reads' HO116.out).2.2 0 p118 q118; cases e118; obtain ⟨ce118, hce118, hMe118, hcc118⟩ := Kd.V_get HO116.out z54 0 p118 (by first | exact q118 | exact of_decide_eq_true (by first | (with_reducible assumption) | assumption) | (have e_ := (Kd.V_reads' HO116.out).1; omega)); obtain ⟨ua118_2, uc118_2, rfl, ul118_2, ge118_2⟩ := k54_openF hMe118; have hv118_2 := hcc118 2 _ rfl; rw [add_field _ _ 2 (by omega)] at hv118_2; replace hv118_2 := Option.some.inj (hv118_2.symm.trans hx118_2); injection hv118_2 with hva_ hvn_ hvc_; rw [hva_] at ge118_2; rw [hvc_] at ul118_2; have HL118_2 := Aside0.mk (show Kd.V (Kd.int .i64) 3 _ w.heap.size _ _ ((rd_T54 t114 0).f2) from Kd.V_mk ul118_2 ge118_2); clear hva_ hvn_ hvc_ ge118_2 ul118_2; clear hcc118 hce118; have qi118 : (0 < t114.length) = True := eq_true (by omega); (try rw [show ((0 : Int)).toNat = 0 from rfl] at hx118_0); (try rw [show 0 * 3 = 0 from rfl] at hx118_0); (try rw [Addr.add_zero'] at hx118_0); (try rw [show ((0 : Int)).toNat = 0 from rfl] at hx118_1); (try rw [show 0 * 3 = 0 from rfl] at hx118_1); (try rw [Addr.add_zero'] at hx118_1); (try rw [show ((0 : Int)).toNat = 0 from rfl] at hx118_2); (try rw [show 0 * 3 = 0 from rfl] at hx118_2); (try rw [Addr.add_zero'] at hx118_2); have HR118_2 := Aside0.mk hi118_2; have HC118_2 := Aside0.mk hl118_2; clear hi118_2 hl118_2; replace p118 := eq_true p118; replace q118 := eq_true q118))
              go_ret
              exact ⟨by first | rfl | (simp [errW_none, errW_some] <;> rfl) | (simp [*, errW_none, errW_some] <;> rfl), by repeat (first | (with_reducible first | exact HB.out | apply below_alloc | apply pw_below_drewN | apply below_drew1) | exact HB.out)⟩
          · rw [if_neg c8] at H
            exact absurd H (by simp)
        · rw [if_neg c7] at H
          have c7b0 : ((t114.length : Int) == 1) = false := beq_eq_false_iff_ne.mpr c7
          have c7b1 : ((t114.length : Int) != 1) = true := bne_iff_ne.mpr c7
          obtain rfl := Option.some.inj H
          go_enter Try.func16, Try.ntmps16
          go_wp2_with (first | ((with_reducible refine gate_callee (f := 19) rfl ?_); refine goesL_ (some 3) rfl rfl Try.func19 (by kernel_rfl) rfl #[.slice none 0 0, .int .i64 2, .int .i64 1] rfl (by (try simp only [List.map_toArray, List.map_cons, List.map_nil]); first | done | rfl | (simp only [List.length_drop, List.length_take]; rfl)) ?_; (refine (order_Note.calls (fun k_ => False) _ _ ([] : List (S54)) 2 1 t108 _ ?side1 A1.out).mono ?_); (case side1 => exact Kd.V_nil _ _ _ _ _); rintro e w57 ⟨v109, rfl, ho0, hb⟩; refine ⟨_, rfl, ?_⟩; have n0_ := Aside0.mk (Kd.V_lower (Kd.V_mono (ok' := fun k_ => True) ho0 (fun k_ hk_ => trivial)) (below_size (by repeat (first | (with_reducible first | exact HB.out | apply below_alloc | apply pw_below_drewN | apply below_drew1) | exact HB.out)))); have n1_ := Aside0.mk (below_step (by repeat (first | (with_reducible first | exact HB.out | apply below_alloc | apply pw_below_drewN | apply below_drew1) | exact HB.out)) hb); clear HB; have HO110 := n0_; have HB := n1_; clear n0_ n1_; (try clear hb); (try clear hb2); (try clear hk); (try clear hi); (try clear ho0); obtain ⟨Ao58, co58, eo58⟩ := Kd.V_slice HO110.out; subst eo58) | ((with_reducible refine gate_callee (f := 19) rfl ?_); refine goesL_ (some 4) rfl rfl Try.func19 (by kernel_rfl) rfl #[.slice Ao58 t108.length co58, .int .i64 2, .int .i64 3] rfl (by (try simp only [List.map_toArray, List.map_cons, List.map_nil]); first | done | rfl | (simp only [List.length_drop, List.length_take]; rfl)) ?_; (with_reducible refine (order_Note.calls (fun k_ => True) _ _ t108 2 3 t111 _ ?side1 A2.out).mono ?_); (case side1 => exact HO110.out); rintro e w59 ⟨v112, rfl, ho0, hb⟩; refine ⟨_, rfl, ?_⟩; have n0_ := Aside0.mk (Kd.V_below (by (with_reducible repeat (first | apply Kd.V_alloc | apply Kd.V_drewN | apply Kd.V_drew)); exact HO110.out) hb); have n1_ := Aside0.mk (Kd.V_lower (Kd.V_mono (ok' := fun k_ => True) ho0 (fun k_ hk_ => trivial)) (below_size (by repeat (first | (with_reducible first | exact HB.out | apply below_alloc | apply pw_below_drewN | apply below_drew1) | exact HB.out)))); have n2_ := Aside0.mk (below_step (by repeat (first | (with_reducible first | exact HB.out | apply below_alloc | apply pw_below_drewN | apply below_drew1) | exact HB.out)) hb); clear HO110; clear HB; have HO110 := n0_; have HO113 := n1_; have HB := n2_; clear n0_ n1_ n2_; (try clear hb); (try clear hb2); (try clear hk); (try clear hi); (try clear ho0); obtain ⟨Ao60, co60, eo60⟩ := Kd.V_slice HO113.out; subst eo60) | ((with_reducible refine gate_callee (f := 19) rfl ?_); refine goesL_ (some 6) rfl rfl Try.func19 (by kernel_rfl) rfl #[.slice Ao60 t111.length co60, .int .i64 2, .int .i64 2] rfl (by (try simp only [List.map_toArray, List.map_cons, List.map_nil]); first | done | rfl | (simp only [List.length_drop, List.length_take]; rfl)) ?_; (with_reducible refine (order_Note.calls (fun k_ => True) _ _ t111 2 2 t114 _ ?side1 A3.out).mono ?_); (case side1 => exact HO113.out); rintro e w61 ⟨v115, rfl, ho0, hb⟩; refine ⟨_, rfl, ?_⟩; have n0_ := Aside0.mk (Kd.V_below (by (with_reducible repeat (first | apply Kd.V_alloc | apply Kd.V_drewN | apply Kd.V_drew)); exact HO110.out) hb); have n1_ := Aside0.mk (Kd.V_below (by (with_reducible repeat (first | apply Kd.V_alloc | apply Kd.V_drewN | apply Kd.V_drew)); exact HO113.out) hb); have n2_ := Aside0.mk (Kd.V_lower (Kd.V_mono (ok' := fun k_ => True) ho0 (fun k_ hk_ => trivial)) (below_size (by repeat (first | (with_reducible first | exact HB.out | apply below_alloc | apply pw_below_drewN | apply below_drew1) | exact HB.out)))); have n3_ := Aside0.mk (below_step (by repeat (first | (with_reducible first | exact HB.out | apply below_alloc | apply pw_below_drewN | apply below_drew1) | exact HB.out)) hb); clear HO110; clear HO113; clear HB; have HO110 := n0_; have HO113 := n1_; have HO116 := n2_; have HB := n3_; clear n0_ n1_ n2_ n3_; (try clear hb); (try clear hb2); (try clear hk); (try clear hi); (try clear ho0); have p117 : 0 ≤ (0 : Int) := (by omega); have q117 : 0 < (t111.length : Int) := of_decide_eq_true (by first | (with_reducible assumption) | assumption); obtain ⟨ad117, A117_2, c117_2, e117, hx117_0, hx117_1, hx117_2, hl117_2, hi117_2⟩ := at_T54 (Kd.V_reads' HO113.out).2.2 0 p117 q117; cases e117; obtain ⟨ce117, hce117, hMe117, hcc117⟩ := Kd.V_get HO113.out z54 0 p117 (by first | exact q117 | exact of_decide_eq_true (by first | (with_reducible assumption) | assumption) | (have e_ := (Kd.V_reads' HO113.out).1; omega)); obtain ⟨ua117_2, uc117_2, rfl, ul117_2, ge117_2⟩ := k54_openF hMe117; have hv117_2 := hcc117 2 _ rfl; rw [add_field _ _ 2 (by omega)] at hv117_2; replace hv117_2 := Option.some.inj (hv117_2.symm.trans hx117_2); injection hv117_2 with hva_ hvn_ hvc_; rw [hva_] at ge117_2; rw [hvc_] at ul117_2; have HL117_2 := Aside0.mk (show Kd.V (Kd.int .i64) 3 _ w.heap.size _ _ ((rd_T54 t111 0).f2) from Kd.V_mk ul117_2 ge117_2); clear hva_ hvn_ hvc_ ge117_2 ul117_2; clear hcc117 hce117; have qi117 : (0 < t111.length) = True := eq_true (by omega); (try rw [show ((0 : Int)).toNat = 0 from rfl] at hx117_0); (try rw [show 0 * 3 = 0 from rfl] at hx117_0); (try rw [Addr.add_zero'] at hx117_0); (try rw [show ((0 : Int)).toNat = 0 from rfl] at hx117_1); (try rw [show 0 * 3 = 0 from rfl] at hx117_1); (try rw [Addr.add_zero'] at hx117_1); (try rw [show ((0 : Int)).toNat = 0 from rfl] at hx117_2); (try rw [show 0 * 3 = 0 from rfl] at hx117_2); (try rw [Addr.add_zero'] at hx117_2); have HR117_2 := Aside0.mk hi117_2; have HC117_2 := Aside0.mk hl117_2; clear hi117_2 hl117_2; replace p117 := eq_true p117; replace q117 := eq_true q117; obtain ⟨Ao62, co62, eo62⟩ := Kd.V_slice HO116.out; subst eo62))
          go_ret
          exact ⟨by first | rfl | (simp [errW_none, errW_some] <;> rfl) | (simp [*, errW_none, errW_some] <;> rfl), by repeat (first | (with_reducible first | exact HB.out | apply below_alloc | apply pw_below_drewN | apply below_drew1) | exact HB.out)⟩
      · rw [if_neg c6] at H
        have c6b0 : (((rd_T54 t111 0).f1) == 1) = false := beq_eq_false_iff_ne.mpr c6
        have c6b1 : (((rd_T54 t111 0).f1) != 1) = true := bne_iff_ne.mpr c6
        obtain rfl := Option.some.inj H
        go_enter Try.func16, Try.ntmps16
        go_wp2_with (first | ((with_reducible refine gate_callee (f := 19) rfl ?_); refine goesL_ (some 3) rfl rfl Try.func19 (by kernel_rfl) rfl #[.slice none 0 0, .int .i64 2, .int .i64 1] rfl (by (try simp only [List.map_toArray, List.map_cons, List.map_nil]); first | done | rfl | (simp only [List.length_drop, List.length_take]; rfl)) ?_; (refine (order_Note.calls (fun k_ => False) _ _ ([] : List (S54)) 2 1 t108 _ ?side1 A1.out).mono ?_); (case side1 => exact Kd.V_nil _ _ _ _ _); rintro e w63 ⟨v109, rfl, ho0, hb⟩; refine ⟨_, rfl, ?_⟩; have n0_ := Aside0.mk (Kd.V_lower (Kd.V_mono (ok' := fun k_ => True) ho0 (fun k_ hk_ => trivial)) (below_size (by repeat (first | (with_reducible first | exact HB.out | apply below_alloc | apply pw_below_drewN | apply below_drew1) | exact HB.out)))); have n1_ := Aside0.mk (below_step (by repeat (first | (with_reducible first | exact HB.out | apply below_alloc | apply pw_below_drewN | apply below_drew1) | exact HB.out)) hb); clear HB; have HO110 := n0_; have HB := n1_; clear n0_ n1_; (try clear hb); (try clear hb2); (try clear hk); (try clear hi); (try clear ho0); obtain ⟨Ao64, co64, eo64⟩ := Kd.V_slice HO110.out; subst eo64) | ((with_reducible refine gate_callee (f := 19) rfl ?_); refine goesL_ (some 4) rfl rfl Try.func19 (by kernel_rfl) rfl #[.slice Ao64 t108.length co64, .int .i64 2, .int .i64 3] rfl (by (try simp only [List.map_toArray, List.map_cons, List.map_nil]); first | done | rfl | (simp only [List.length_drop, List.length_take]; rfl)) ?_; (with_reducible refine (order_Note.calls (fun k_ => True) _ _ t108 2 3 t111 _ ?side1 A2.out).mono ?_); (case side1 => exact HO110.out); rintro e w65 ⟨v112, rfl, ho0, hb⟩; refine ⟨_, rfl, ?_⟩; have n0_ := Aside0.mk (Kd.V_below (by (with_reducible repeat (first | apply Kd.V_alloc | apply Kd.V_drewN | apply Kd.V_drew)); exact HO110.out) hb); have n1_ := Aside0.mk (Kd.V_lower (Kd.V_mono (ok' := fun k_ => True) ho0 (fun k_ hk_ => trivial)) (below_size (by repeat (first | (with_reducible first | exact HB.out | apply below_alloc | apply pw_below_drewN | apply below_drew1) | exact HB.out)))); have n2_ := Aside0.mk (below_step (by repeat (first | (with_reducible first | exact HB.out | apply below_alloc | apply pw_below_drewN | apply below_drew1) | exact HB.out)) hb); clear HO110; clear HB; have HO110 := n0_; have HO113 := n1_; have HB := n2_; clear n0_ n1_ n2_; (try clear hb); (try clear hb2); (try clear hk); (try clear hi); (try clear ho0); obtain ⟨Ao66, co66, eo66⟩ := Kd.V_slice HO113.out; subst eo66) | ((with_reducible refine gate_callee (f := 19) rfl ?_); refine goesL_ (some 6) rfl rfl Try.func19 (by kernel_rfl) rfl #[.slice Ao66 t111.length co66, .int .i64 2, .int .i64 2] rfl (by (try simp only [List.map_toArray, List.map_cons, List.map_nil]); first | done | rfl | (simp only [List.length_drop, List.length_take]; rfl)) ?_; (with_reducible refine (order_Note.calls (fun k_ => True) _ _ t111 2 2 t114 _ ?side1 A3.out).mono ?_); (case side1 => exact HO113.out); rintro e w67 ⟨v115, rfl, ho0, hb⟩; refine ⟨_, rfl, ?_⟩; have n0_ := Aside0.mk (Kd.V_below (by (with_reducible repeat (first | apply Kd.V_alloc | apply Kd.V_drewN | apply Kd.V_drew)); exact HO110.out) hb); have n1_ := Aside0.mk (Kd.V_below (by (with_reducible repeat (first | apply Kd.V_alloc | apply Kd.V_drewN | apply Kd.V_drew)); exact HO113.out) hb); have n2_ := Aside0.mk (Kd.V_lower (Kd.V_mono (ok' := fun k_ => True) ho0 (fun k_ hk_ => trivial)) (below_size (by repeat (first | (with_reducible first | exact HB.out | apply below_alloc | apply pw_below_drewN | apply below_drew1) | exact HB.out)))); have n3_ := Aside0.mk (below_step (by repeat (first | (with_reducible first | exact HB.out | apply below_alloc | apply pw_below_drewN | apply below_drew1) | exact HB.out)) hb); clear HO110; clear HO113; clear HB; have HO110 := n0_; have HO113 := n1_; have HO116 := n2_; have HB := n3_; clear n0_ n1_ n2_ n3_; (try clear hb); (try clear hb2); (try clear hk); (try clear hi); (try clear ho0); have p117 : 0 ≤ (0 : Int) := (by omega); have q117 : 0 < (t111.length : Int) := of_decide_eq_true (by first | (with_reducible assumption) | assumption); obtain ⟨ad117, A117_2, c117_2, e117, hx117_0, hx117_1, hx117_2, hl117_2, hi117_2⟩ := at_T54 (Kd.V_reads' HO113.out).2.2 0 p117 q117; cases e117; obtain ⟨ce117, hce117, hMe117, hcc117⟩ := Kd.V_get HO113.out z54 0 p117 (by first | exact q117 | exact of_decide_eq_true (by first | (with_reducible assumption) | assumption) | (have e_ := (Kd.V_reads' HO113.out).1; omega)); obtain ⟨ua117_2, uc117_2, rfl, ul117_2, ge117_2⟩ := k54_openF hMe117; have hv117_2 := hcc117 2 _ rfl; rw [add_field _ _ 2 (by omega)] at hv117_2; replace hv117_2 := Option.some.inj (hv117_2.symm.trans hx117_2); injection hv117_2 with hva_ hvn_ hvc_; rw [hva_] at ge117_2; rw [hvc_] at ul117_2; have HL117_2 := Aside0.mk (show Kd.V (Kd.int .i64) 3 _ w.heap.size _ _ ((rd_T54 t111 0).f2) from Kd.V_mk ul117_2 ge117_2); clear hva_ hvn_ hvc_ ge117_2 ul117_2; clear hcc117 hce117; have qi117 : (0 < t111.length) = True := eq_true (by omega); (try rw [show ((0 : Int)).toNat = 0 from rfl] at hx117_0); (try rw [show 0 * 3 = 0 from rfl] at hx117_0); (try rw [Addr.add_zero'] at hx117_0); (try rw [show ((0 : Int)).toNat = 0 from rfl] at hx117_1); (try rw [show 0 * 3 = 0 from rfl] at hx117_1); (try rw [Addr.add_zero'] at hx117_1); (try rw [show ((0 : Int)).toNat = 0 from rfl] at hx117_2); (try rw [show 0 * 3 = 0 from rfl] at hx117_2); (try rw [Addr.add_zero'] at hx117_2); have HR117_2 := Aside0.mk hi117_2; have HC117_2 := Aside0.mk hl117_2; clear hi117_2 hl117_2; replace p117 := eq_true p117; replace q117 := eq_true q117))
        go_ret
        exact ⟨by first | rfl | (simp [errW_none, errW_some] <;> rfl) | (simp [*, errW_none, errW_some] <;> rfl), by repeat (first | (with_reducible first | exact HB.out | apply below_alloc | apply pw_below_drewN | apply below_drew1) | exact HB.out)⟩
    · rw [if_neg c5] at H
      exact absurd H (by simp)
  · rw [if_neg c4] at H
    have c4b0 : ((t111.length : Int) == 1) = false := beq_eq_false_iff_ne.mpr c4
    have c4b1 : ((t111.length : Int) != 1) = true := bne_iff_ne.mpr c4
    obtain rfl := Option.some.inj H
    go_enter Try.func16, Try.ntmps16
    go_wp2_with (first | ((with_reducible refine gate_callee (f := 19) rfl ?_); refine goesL_ (some 3) rfl rfl Try.func19 (by kernel_rfl) rfl #[.slice none 0 0, .int .i64 2, .int .i64 1] rfl (by (try simp only [List.map_toArray, List.map_cons, List.map_nil]); first | done | rfl | (simp only [List.length_drop, List.length_take]; rfl)) ?_; (refine (order_Note.calls (fun k_ => False) _ _ ([] : List (S54)) 2 1 t108 _ ?side1 A1.out).mono ?_); (case side1 => exact Kd.V_nil _ _ _ _ _); rintro e w68 ⟨v109, rfl, ho0, hb⟩; refine ⟨_, rfl, ?_⟩; have n0_ := Aside0.mk (Kd.V_lower (Kd.V_mono (ok' := fun k_ => True) ho0 (fun k_ hk_ => trivial)) (below_size (by repeat (first | (with_reducible first | exact HB.out | apply below_alloc | apply pw_below_drewN | apply below_drew1) | exact HB.out)))); have n1_ := Aside0.mk (below_step (by repeat (first | (with_reducible first | exact HB.out | apply below_alloc | apply pw_below_drewN | apply below_drew1) | exact HB.out)) hb); clear HB; have HO110 := n0_; have HB := n1_; clear n0_ n1_; (try clear hb); (try clear hb2); (try clear hk); (try clear hi); (try clear ho0); obtain ⟨Ao69, co69, eo69⟩ := Kd.V_slice HO110.out; subst eo69) | ((with_reducible refine gate_callee (f := 19) rfl ?_); refine goesL_ (some 4) rfl rfl Try.func19 (by kernel_rfl) rfl #[.slice Ao69 t108.length co69, .int .i64 2, .int .i64 3] rfl (by (try simp only [List.map_toArray, List.map_cons, List.map_nil]); first | done | rfl | (simp only [List.length_drop, List.length_take]; rfl)) ?_; (with_reducible refine (order_Note.calls (fun k_ => True) _ _ t108 2 3 t111 _ ?side1 A2.out).mono ?_); (case side1 => exact HO110.out); rintro e w70 ⟨v112, rfl, ho0, hb⟩; refine ⟨_, rfl, ?_⟩; have n0_ := Aside0.mk (Kd.V_below (by (with_reducible repeat (first | apply Kd.V_alloc | apply Kd.V_drewN | apply Kd.V_drew)); exact HO110.out) hb); have n1_ := Aside0.mk (Kd.V_lower (Kd.V_mono (ok' := fun k_ => True) ho0 (fun k_ hk_ => trivial)) (below_size (by repeat (first | (with_reducible first | exact HB.out | apply below_alloc | apply pw_below_drewN | apply below_drew1) | exact HB.out)))); have n2_ := Aside0.mk (below_step (by repeat (first | (with_reducible first | exact HB.out | apply below_alloc | apply pw_below_drewN | apply below_drew1) | exact HB.out)) hb); clear HO110; clear HB; have HO110 := n0_; have HO113 := n1_; have HB := n2_; clear n0_ n1_ n2_; (try clear hb); (try clear hb2); (try clear hk); (try clear hi); (try clear ho0); obtain ⟨Ao71, co71, eo71⟩ := Kd.V_slice HO113.out; subst eo71) | ((with_reducible refine gate_callee (f := 19) rfl ?_); refine goesL_ (some 6) rfl rfl Try.func19 (by kernel_rfl) rfl #[.slice Ao71 t111.length co71, .int .i64 2, .int .i64 2] rfl (by (try simp only [List.map_toArray, List.map_cons, List.map_nil]); first | done | rfl | (simp only [List.length_drop, List.length_take]; rfl)) ?_; (with_reducible refine (order_Note.calls (fun k_ => True) _ _ t111 2 2 t114 _ ?side1 A3.out).mono ?_); (case side1 => exact HO113.out); rintro e w72 ⟨v115, rfl, ho0, hb⟩; refine ⟨_, rfl, ?_⟩; have n0_ := Aside0.mk (Kd.V_below (by (with_reducible repeat (first | apply Kd.V_alloc | apply Kd.V_drewN | apply Kd.V_drew)); exact HO110.out) hb); have n1_ := Aside0.mk (Kd.V_below (by (with_reducible repeat (first | apply Kd.V_alloc | apply Kd.V_drewN | apply Kd.V_drew)); exact HO113.out) hb); have n2_ := Aside0.mk (Kd.V_lower (Kd.V_mono (ok' := fun k_ => True) ho0 (fun k_ hk_ => trivial)) (below_size (by repeat (first | (with_reducible first | exact HB.out | apply below_alloc | apply pw_below_drewN | apply below_drew1) | exact HB.out)))); have n3_ := Aside0.mk (below_step (by repeat (first | (with_reducible first | exact HB.out | apply below_alloc | apply pw_below_drewN | apply below_drew1) | exact HB.out)) hb); clear HO110; clear HO113; clear HB; have HO110 := n0_; have HO113 := n1_; have HO116 := n2_; have HB := n3_; clear n0_ n1_ n2_ n3_; (try clear hb); (try clear hb2); (try clear hk); (try clear hi); (try clear ho0)))
    go_ret
    exact ⟨by first | rfl | (simp [errW_none, errW_some] <;> rfl) | (simp [*, errW_none, errW_some] <;> rfl), by repeat (first | (with_reducible first | exact HB.out | apply below_alloc | apply pw_below_drewN | apply below_drew1) | exact HB.out)⟩

/-! ### selvedgelaw14_few: function 17 -/
mutual
def selvedgelaw14_few.j0 : Nat → List (S54) → Bool → Option (Bool)
  | 0, _, _ => none
  | k + 1, x0, x5 => selvedgelaw14_few.l0 k x0 x5 0
def selvedgelaw14_few.l0 : Nat → List (S54) → Bool → Int → Option (Bool)
  | 0, _, _, _ => none
  | k + 1, x0, x5, x6 => if x6 < (x0.length : Int) then (if x5 = true then (if 0 ≤ x6 then (if ((rd_T54 x0 x6).f1) > (-1099511627776) then (selvedgelaw14_few.j2 k x0 (decide (((rd_T54 x0 x6).f1) < 1099511627776)) x6) else (selvedgelaw14_few.j2 k x0 false x6)) else (none)) else (selvedgelaw14_few.j2 k x0 false x6)) else (some x5)
def selvedgelaw14_few.j2 : Nat → List (S54) → Bool → Int → Option (Bool)
  | 0, _, _, _ => none
  | k + 1, x0, x5, x6 => selvedgelaw14_few.l1 k x0 x5 x6 0
def selvedgelaw14_few.l1 : Nat → List (S54) → Bool → Int → Int → Option (Bool)
  | 0, _, _, _, _ => none
  | k + 1, x0, x5, x6, x7 => if 0 ≤ x6 then (if x6 < (x0.length : Int) then (if x7 < (((rd_T54 x0 x6).f2).length : Int) then (if x5 = true then (if 0 ≤ x7 then (if (rd ((rd_T54 x0 x6).f2) x7) > (-1099511627776) then (selvedgelaw14_few.l1 k x0 (decide ((rd ((rd_T54 x0 x6).f2) x7) < 1099511627776)) x6 (wrap64 (x7 + 1))) else (selvedgelaw14_few.l1 k x0 false x6 (wrap64 (x7 + 1)))) else (none)) else (selvedgelaw14_few.l1 k x0 false x6 (wrap64 (x7 + 1)))) else (selvedgelaw14_few.l0 k x0 x5 (wrap64 (x6 + 1)))) else (none)) else (none)
end
def selvedgelaw14_few.f (k : Nat) (l0 : List (S54)) (a1 : Int) : Option (Bool) := if a1 > (-1099511627776) then (selvedgelaw14_few.j0 k l0 (decide (a1 < 1099511627776))) else (selvedgelaw14_few.j0 k l0 false)
theorem selvedgelaw14_few.mono_l : ∀ k, (∀ y0 y1, LeO (selvedgelaw14_few.j0 k y0 y1) (selvedgelaw14_few.j0 (k + 1) y0 y1)) ∧ (∀ y0 y1 y2, LeO (selvedgelaw14_few.l0 k y0 y1 y2) (selvedgelaw14_few.l0 (k + 1) y0 y1 y2)) ∧ (∀ y0 y1 y2, LeO (selvedgelaw14_few.j2 k y0 y1 y2) (selvedgelaw14_few.j2 (k + 1) y0 y1 y2)) ∧ (∀ y0 y1 y2 y3, LeO (selvedgelaw14_few.l1 k y0 y1 y2 y3) (selvedgelaw14_few.l1 (k + 1) y0 y1 y2 y3))
  | 0 => ⟨fun _ _ r h => by simp [selvedgelaw14_few.j0] at h, fun _ _ _ r h => by simp [selvedgelaw14_few.l0] at h, fun _ _ _ r h => by simp [selvedgelaw14_few.j2] at h, fun _ _ _ _ r h => by simp [selvedgelaw14_few.l1] at h⟩
  | k + 1 => by
    obtain ⟨ih0, ih1, ih2, ih3⟩ := selvedgelaw14_few.mono_l k
    refine ⟨?_, ?_, ?_, ?_⟩
    · intro y0 y1
      unfold selvedgelaw14_few.j0
      repeat' first
      | (with_reducible exact ih0 _ _)
      | (with_reducible exact ih1 _ _ _)
      | (with_reducible exact ih2 _ _ _)
      | (with_reducible exact ih3 _ _ _ _)
      | (with_reducible exact LeO.refl _)
      | (with_reducible exact LeO.none _)
      | (with_reducible refine LeO.ite ?_ ?_)
      | (with_reducible refine LeO.bind ?_ (fun _ => ?_))
      | exact ih0 _ _
      | exact ih1 _ _ _
      | exact ih2 _ _ _
      | exact ih3 _ _ _ _
      | exact LeO.none _
      | refine LeO.ite ?_ ?_
      | refine LeO.bind ?_ (fun _ => ?_)
    · intro y0 y1 y2
      unfold selvedgelaw14_few.l0
      repeat' first
      | (with_reducible exact ih0 _ _)
      | (with_reducible exact ih1 _ _ _)
      | (with_reducible exact ih2 _ _ _)
      | (with_reducible exact ih3 _ _ _ _)
      | (with_reducible exact LeO.refl _)
      | (with_reducible exact LeO.none _)
      | (with_reducible refine LeO.ite ?_ ?_)
      | (with_reducible refine LeO.bind ?_ (fun _ => ?_))
      | exact ih0 _ _
      | exact ih1 _ _ _
      | exact ih2 _ _ _
      | exact ih3 _ _ _ _
      | exact LeO.none _
      | refine LeO.ite ?_ ?_
      | refine LeO.bind ?_ (fun _ => ?_)
    · intro y0 y1 y2
      unfold selvedgelaw14_few.j2
      repeat' first
      | (with_reducible exact ih0 _ _)
      | (with_reducible exact ih1 _ _ _)
      | (with_reducible exact ih2 _ _ _)
      | (with_reducible exact ih3 _ _ _ _)
      | (with_reducible exact LeO.refl _)
      | (with_reducible exact LeO.none _)
      | (with_reducible refine LeO.ite ?_ ?_)
      | (with_reducible refine LeO.bind ?_ (fun _ => ?_))
      | exact ih0 _ _
      | exact ih1 _ _ _
      | exact ih2 _ _ _
      | exact ih3 _ _ _ _
      | exact LeO.none _
      | refine LeO.ite ?_ ?_
      | refine LeO.bind ?_ (fun _ => ?_)
    · intro y0 y1 y2 y3
      unfold selvedgelaw14_few.l1
      repeat' first
      | (with_reducible exact ih0 _ _)
      | (with_reducible exact ih1 _ _ _)
      | (with_reducible exact ih2 _ _ _)
      | (with_reducible exact ih3 _ _ _ _)
      | (with_reducible exact LeO.refl _)
      | (with_reducible exact LeO.none _)
      | (with_reducible refine LeO.ite ?_ ?_)
      | (with_reducible refine LeO.bind ?_ (fun _ => ?_))
      | exact ih0 _ _
      | exact ih1 _ _ _
      | exact ih2 _ _ _
      | exact ih3 _ _ _ _
      | exact LeO.none _
      | refine LeO.ite ?_ ?_
      | refine LeO.bind ?_ (fun _ => ?_)
theorem selvedgelaw14_few.mono : ∀ a0 a1 k, LeO (selvedgelaw14_few.f k a0 a1) (selvedgelaw14_few.f (k + 1) a0 a1) := by
  intro a0 a1 k
  obtain ⟨ih0, ih1, ih2, ih3⟩ := selvedgelaw14_few.mono_l k
  unfold selvedgelaw14_few.f
  repeat' first
      | (with_reducible exact ih0 _ _)
      | (with_reducible exact ih1 _ _ _)
      | (with_reducible exact ih2 _ _ _)
      | (with_reducible exact ih3 _ _ _ _)
      | (with_reducible exact LeO.refl _)
      | (with_reducible exact LeO.none _)
      | (with_reducible refine LeO.ite ?_ ?_)
      | (with_reducible refine LeO.bind ?_ (fun _ => ?_))
      | exact ih0 _ _
      | exact ih1 _ _ _
      | exact ih2 _ _ _
      | exact ih3 _ _ _ _
      | exact LeO.none _
      | refine LeO.ite ?_ ?_
      | refine LeO.bind ?_ (fun _ => ?_)
set_option maxHeartbeats 8000000 in
set_option maxRecDepth 100000 in
theorem selvedgelaw14_few.calls (k : Nat) (A0 : Option Addr) (c0 : Nat) (l0 : List (S54)) (a1 : Int) (r : Bool) (w : World) (hr0 : Kd.C k54 w A0 l0.length l0) (hc0 : l0.length ≤ c0) (h : selvedgelaw14_few.f k l0 a1 = some r) :
    Calls Try.prog 17 #[.slice A0 l0.length c0, .int .i64 a1] w fun e w' => e = .returned (.bool r) ∧ Drawn0 w w' := by
  have HR0 := Aside0.mk hr0
  have HC0 := Aside0.mk hc0
  clear hr0 hc0
  have H : (if a1 > (-1099511627776) then (selvedgelaw14_few.j0 k l0 (decide (a1 < 1099511627776))) else (selvedgelaw14_few.j0 k l0 false)) = some r := h
  clear h
  have HC3 := Aside0.mk H
  clear H
  go_enter Try.func17, Try.ntmps17
  go_upto_region 1 with (fail)
  go_cut [5] (fun v5 wc => ∃ (kq : Nat) (x5_2 : Bool), v5 = .bool x5_2 ∧ Aside0 (selvedgelaw14_few.j0 kq l0 x5_2 = some r) ∧ Aside0 (kq ≤ k) ∧ Drawn0 w wc)
  case first =>
    have H := HC3.out
    clear HC3
    by_cases c4 : a1 > (-1099511627776)
    · rw [if_pos c4] at H
      have c4b0 : decide ((-1099511627776) < a1) = true := decide_eq_true c4
      clear c4
      (first | rw [c4b0] | (simp only [i64_w, i32_w]; rw [c4b0]) | skip)
      have H' := Aside0.mk H
      clear H
      go_wp2
      go_meet
      case rel => exact ⟨_, (decide (a1 < 1099511627776)), (by first | rfl | (simp; done) | (simp [*]; done)), H', ⟨by first | omega | exact Nat.le_refl _⟩, by repeat (first | exact Drawn0.refl _ | apply Drawn0.step)⟩
    · rw [if_neg c4] at H
      have c4b0 : decide ((-1099511627776) < a1) = false := decide_eq_false c4
      clear c4
      (first | rw [c4b0] | (simp only [i64_w, i32_w]; rw [c4b0]) | skip)
      have H' := Aside0.mk H
      clear H
      go_wp2
      go_meet
      case rel => exact ⟨_, (false), (by first | rfl | (simp; done) | (simp [*]; done)), H', ⟨by first | omega | exact Nat.le_refl _⟩, by repeat (first | exact Drawn0.refl _ | apply Drawn0.step)⟩
  case rest =>
    clear HC3
    try clear c1
    try clear p2
    try clear c4
    try clear c4b0
    obtain ⟨kq, x5_2, rfl, HA, HJ2, ⟨mc2, rfl⟩⟩ := hcut
    cases kq with
    | zero => exact absurd HA.out (by simp [selvedgelaw14_few.j0])
    | succ kj2 =>
      have H := HA.out
      clear HA
      simp only [selvedgelaw14_few.j0] at H
      have H' := Aside0.mk H
      clear H
      go_wp2
      go_loopg [5, 6] kj2 (fun kq v5 v6 w' => ∃ (x5_2 : Bool) (x6_2 : Int), v5 = .bool x5_2 ∧ v6 = .int .i64 x6_2 ∧ Aside0 (selvedgelaw14_few.l0 kq l0 x5_2 x6_2 = some r) ∧ Aside0 (kq ≤ kj2) ∧ Drawn0 w w')
      case atStart => exact ⟨(x5_2), (0), (by first | rfl | (simp; done) | (simp [*]; done)), (by first | rfl | (simp; done) | (simp [*]; done)), H', ⟨Nat.le_refl _⟩, by repeat (first | exact Drawn0.refl _ | apply Drawn0.step)⟩
      case round =>
        clear H'
        try clear c1
        try clear c2
        try clear p2
        try clear c4
        try clear c4b0
        try clear p2
        obtain ⟨x5_2, x6_2, rfl, rfl, HA, HK2, ⟨m2, rfl⟩⟩ := hrel
        cases gk with
        | zero => exact absurd HA.out (by simp [selvedgelaw14_few.l0])
        | succ k2 =>
          have H := HA.out
          clear HA
          simp only [selvedgelaw14_few.l0] at H
          by_cases c5 : x6_2 < (l0.length : Int)
          · rw [if_pos c5] at H
            have c5b0 : decide (x6_2 < (l0.length : Int)) = true := decide_eq_true c5
            clear c5
            have HC6 := Aside0.mk H
            clear H
            go_upto_region 5 with (fail)
            go_cut [5] (fun v5 wc => ∃ (kq : Nat) (x5_5 : Bool), v5 = .bool x5_5 ∧ Aside0 (selvedgelaw14_few.j2 kq l0 x5_5 x6_2 = some r) ∧ Aside0 (kq ≤ k2) ∧ Drawn0 w wc)
            case first =>
              have H := HC6.out
              clear HC6
              by_cases c7 : x5_2 = true
              · subst c7
                have H1 : (if 0 ≤ x6_2 then (if ((rd_T54 l0 x6_2).f1) > (-1099511627776) then (selvedgelaw14_few.j2 k2 l0 (decide (((rd_T54 l0 x6_2).f1) < 1099511627776)) x6_2) else (selvedgelaw14_few.j2 k2 l0 false x6_2)) else (none)) = some r := by rw [if_pos rfl] at H; exact H
                clear H
                have H := H1
                clear H1
                by_cases c8 : 0 ≤ x6_2
                · rw [if_pos c8] at H
                  have c8b0 : decide (0 ≤ x6_2) = true := decide_eq_true c8
                  clear c8
                  (first | rw [c8b0] | (simp only [i64_w, i32_w]; rw [c8b0]) | skip)
                  by_cases c9 : ((rd_T54 l0 x6_2).f1) > (-1099511627776)
                  · rw [if_pos c9] at H
                    have c9b0 : decide ((-1099511627776) < ((rd_T54 l0 x6_2).f1)) = true := decide_eq_true c9
                    clear c9
                    have H' := Aside0.mk H
                    clear H
                    have p123 : 0 ≤ (x6_2 : Int) := of_decide_eq_true (by first | (with_reducible assumption) | assumption)
                    have q123 : x6_2 < (l0.length : Int) := of_decide_eq_true (by first | (with_reducible assumption) | assumption)
                    obtain ⟨ad123, A123_2, c123_2, e123, hx123_0, hx123_1, hx123_2, hl123_2, hi123_2⟩ := at_T54 HR0.out x6_2 p123 q123
                    cases e123
                    have HR123_2 := Aside0.mk hi123_2
                    have HC123_2 := Aside0.mk hl123_2
                    clear hi123_2 hl123_2
                    replace p123 := eq_true p123
                    replace q123 := eq_true q123
                    have p124 : 0 ≤ (x6_2 : Int) := of_decide_eq_true (by first | (with_reducible assumption) | assumption)
                    have q124 : x6_2 < (l0.length : Int) := of_decide_eq_true (by first | (with_reducible assumption) | assumption)
                    obtain ⟨ad124, A124_2, c124_2, e124, hx124_0, hx124_1, hx124_2, hl124_2, hi124_2⟩ := at_T54 HR0.out x6_2 p124 q124
                    obtain rfl : ad123 = ad124 := (by injection e124)
                    have HR124_2 := Aside0.mk hi124_2
                    have HC124_2 := Aside0.mk hl124_2
                    clear hi124_2 hl124_2
                    replace p124 := eq_true p124
                    replace q124 := eq_true q124
                    have ea_ := Option.some.inj (hx123_2.symm.trans hx124_2)
                    injection ea_ with ea_ en_ ec_
                    subst ea_
                    subst ec_
                    clear en_
                    go_wp2
                    go_meet
                    case rel => exact ⟨_, (decide (((rd_T54 l0 x6_2).f1) < 1099511627776)), (by first | rfl | (simp; done) | (simp [*]; done)), H', ⟨by have := HJ2.out; have := HK2.out; first | omega | exact Nat.le_refl _⟩, by repeat (first | exact Drawn0.refl _ | apply Drawn0.step)⟩
                  · rw [if_neg c9] at H
                    have c9b0 : decide ((-1099511627776) < ((rd_T54 l0 x6_2).f1)) = false := decide_eq_false c9
                    clear c9
                    have H' := Aside0.mk H
                    clear H
                    have p123 : 0 ≤ (x6_2 : Int) := of_decide_eq_true (by first | (with_reducible assumption) | assumption)
                    have q123 : x6_2 < (l0.length : Int) := of_decide_eq_true (by first | (with_reducible assumption) | assumption)
                    obtain ⟨ad123, A123_2, c123_2, e123, hx123_0, hx123_1, hx123_2, hl123_2, hi123_2⟩ := at_T54 HR0.out x6_2 p123 q123
                    cases e123
                    have HR123_2 := Aside0.mk hi123_2
                    have HC123_2 := Aside0.mk hl123_2
                    clear hi123_2 hl123_2
                    replace p123 := eq_true p123
                    replace q123 := eq_true q123
                    go_wp2
                    go_meet
                    case rel => exact ⟨_, (false), (by first | rfl | (simp; done) | (simp [*]; done)), H', ⟨by have := HJ2.out; have := HK2.out; first | omega | exact Nat.le_refl _⟩, by repeat (first | exact Drawn0.refl _ | apply Drawn0.step)⟩
                · rw [if_neg c8] at H
                  exact absurd H (by simp)
              · replace c7 := Bool.eq_false_iff.mpr c7
                subst c7
                have H1 : (selvedgelaw14_few.j2 k2 l0 false x6_2) = some r := by rw [if_neg (show ¬ (false = true) by decide)] at H; exact H
                clear H
                have H := H1
                clear H1
                have H' := Aside0.mk H
                clear H
                go_wp2
                go_meet
                case rel => exact ⟨_, (false), (by first | rfl | (simp; done) | (simp [*]; done)), H', ⟨by have := HJ2.out; have := HK2.out; first | omega | exact Nat.le_refl _⟩, by repeat (first | exact Drawn0.refl _ | apply Drawn0.step)⟩
            case rest =>
              clear HC6
              try clear c1
              try clear p1
              try clear q1
              try clear hx1
              try clear c2
              try clear p2
              try clear c4
              try clear c4b0
              try clear c5
              try clear c5b0
              try clear c7
              try clear c8
              try clear c8b0
              try clear c9
              try clear c9b0
              try clear hx123_0
              try clear hx123_1
              try clear hx123_2
              try clear hx124_0
              try clear hx124_1
              try clear hx124_2
              try clear p123
              try clear p124
              try clear p2
              try clear q123
              try clear q124
              obtain ⟨kq, x5_5, rfl, HA, HJ5, ⟨mc5, rfl⟩⟩ := hcut
              cases kq with
              | zero => exact absurd HA.out (by simp [selvedgelaw14_few.j2])
              | succ kj5 =>
                have H := HA.out
                clear HA
                simp only [selvedgelaw14_few.j2] at H
                have H' := Aside0.mk H
                clear H
                go_wp2
                go_loopg [5, 7] kj5 (fun kq v5 v7 w' => ∃ (x5_4 : Bool) (x7_4 : Int), v5 = .bool x5_4 ∧ v7 = .int .i64 x7_4 ∧ Aside0 (selvedgelaw14_few.l1 kq l0 x5_4 x6_2 x7_4 = some r) ∧ Aside0 (kq ≤ kj5) ∧ Drawn0 w w')
                case atStart => exact ⟨(x5_5), (0), (by first | rfl | (simp; done) | (simp [*]; done)), (by first | rfl | (simp; done) | (simp [*]; done)), H', ⟨Nat.le_refl _⟩, by repeat (first | exact Drawn0.refl _ | apply Drawn0.step)⟩
                case round =>
                  clear H'
                  try clear c1
                  try clear p1
                  try clear q1
                  try clear hx1
                  try clear c2
                  try clear p2
                  try clear c4
                  try clear c4b0
                  try clear c5
                  try clear c5b0
                  try clear c7
                  try clear c8
                  try clear c8b0
                  try clear c9
                  try clear c9b0
                  try clear hx123_0
                  try clear hx123_1
                  try clear hx123_2
                  try clear hx124_0
                  try clear hx124_1
                  try clear hx124_2
                  try clear p1
                  try clear p123
                  try clear p124
                  try clear p2
                  try clear q1
                  try clear q123
                  try clear q124
                  obtain ⟨x5_4, x7_4, rfl, rfl, HA, HK4, ⟨m4, rfl⟩⟩ := hrel
                  cases gk with
                  | zero => exact absurd HA.out (by simp [selvedgelaw14_few.l1])
                  | succ k4 =>
                    have H := HA.out
                    clear HA
                    simp only [selvedgelaw14_few.l1] at H
                    by_cases c10 : 0 ≤ x6_2
                    · rw [if_pos c10] at H
                      have c10b0 : decide (0 ≤ x6_2) = true := decide_eq_true c10
                      clear c10
                      by_cases c11 : x6_2 < (l0.length : Int)
                      · rw [if_pos c11] at H
                        have c11b0 : decide (x6_2 < (l0.length : Int)) = true := decide_eq_true c11
                        clear c11
                        by_cases c12 : x7_4 < (((rd_T54 l0 x6_2).f2).length : Int)
                        · rw [if_pos c12] at H
                          have c12b0 : decide (x7_4 < (((rd_T54 l0 x6_2).f2).length : Int)) = true := decide_eq_true c12
                          clear c12
                          by_cases c13 : x5_4 = true
                          · subst c13
                            have H1 : (if 0 ≤ x7_4 then (if (rd ((rd_T54 l0 x6_2).f2) x7_4) > (-1099511627776) then (selvedgelaw14_few.l1 k4 l0 (decide ((rd ((rd_T54 l0 x6_2).f2) x7_4) < 1099511627776)) x6_2 (wrap64 (x7_4 + 1))) else (selvedgelaw14_few.l1 k4 l0 false x6_2 (wrap64 (x7_4 + 1)))) else (none)) = some r := by rw [if_pos rfl] at H; exact H
                            clear H
                            have H := H1
                            clear H1
                            by_cases c14 : 0 ≤ x7_4
                            · rw [if_pos c14] at H
                              have c14b0 : decide (0 ≤ x7_4) = true := decide_eq_true c14
                              clear c14
                              by_cases c15 : (rd ((rd_T54 l0 x6_2).f2) x7_4) > (-1099511627776)
                              · rw [if_pos c15] at H
                                have c15b0 : decide ((-1099511627776) < (rd ((rd_T54 l0 x6_2).f2) x7_4)) = true := decide_eq_true c15
                                clear c15
                                have H' := Aside0.mk H
                                clear H
                                have p125 : 0 ≤ (x6_2 : Int) := of_decide_eq_true (by first | (with_reducible assumption) | assumption)
                                have q125 : x6_2 < (l0.length : Int) := of_decide_eq_true (by first | (with_reducible assumption) | assumption)
                                obtain ⟨ad125, A125_2, c125_2, e125, hx125_0, hx125_1, hx125_2, hl125_2, hi125_2⟩ := at_T54 HR0.out x6_2 p125 q125
                                cases e125
                                have HR125_2 := Aside0.mk hi125_2
                                have HC125_2 := Aside0.mk hl125_2
                                clear hi125_2 hl125_2
                                replace p125 := eq_true p125
                                replace q125 := eq_true q125
                                have p126 : 0 ≤ (x6_2 : Int) := of_decide_eq_true (by first | (with_reducible assumption) | assumption)
                                have q126 : x6_2 < (l0.length : Int) := of_decide_eq_true (by first | (with_reducible assumption) | assumption)
                                obtain ⟨ad126, A126_2, c126_2, e126, hx126_0, hx126_1, hx126_2, hl126_2, hi126_2⟩ := at_T54 HR0.out x6_2 p126 q126
                                obtain rfl : ad125 = ad126 := (by injection e126)
                                have HR126_2 := Aside0.mk hi126_2
                                have HC126_2 := Aside0.mk hl126_2
                                clear hi126_2 hl126_2
                                replace p126 := eq_true p126
                                replace q126 := eq_true q126
                                have ea_ := Option.some.inj (hx125_2.symm.trans hx126_2)
                                injection ea_ with ea_ en_ ec_
                                subst ea_
                                subst ec_
                                clear en_
                                have p127 : 0 ≤ (x7_4 : Int) := of_decide_eq_true (by first | (with_reducible assumption) | assumption)
                                have q127 : x7_4 < (((rd_T54 l0 x6_2).f2).length : Int) := of_decide_eq_true (by first | (with_reducible assumption) | assumption)
                                obtain ⟨ad127, e127, hx127_0⟩ := Kd.at_int HR126_2.out x7_4 p127 q127
                                cases e127
                                replace p127 := eq_true p127
                                replace q127 := eq_true q127
                                have p128 : 0 ≤ (x6_2 : Int) := of_decide_eq_true (by first | (with_reducible assumption) | assumption)
                                have q128 : x6_2 < (l0.length : Int) := of_decide_eq_true (by first | (with_reducible assumption) | assumption)
                                obtain ⟨ad128, A128_2, c128_2, e128, hx128_0, hx128_1, hx128_2, hl128_2, hi128_2⟩ := at_T54 HR0.out x6_2 p128 q128
                                obtain rfl : ad125 = ad128 := (by injection e128)
                                have HR128_2 := Aside0.mk hi128_2
                                have HC128_2 := Aside0.mk hl128_2
                                clear hi128_2 hl128_2
                                replace p128 := eq_true p128
                                replace q128 := eq_true q128
                                have ea_ := Option.some.inj (hx125_2.symm.trans hx128_2)
                                injection ea_ with ea_ en_ ec_
                                subst ea_
                                subst ec_
                                clear en_
                                have p129 : 0 ≤ (x7_4 : Int) := of_decide_eq_true (by first | (with_reducible assumption) | assumption)
                                have q129 : x7_4 < (((rd_T54 l0 x6_2).f2).length : Int) := of_decide_eq_true (by first | (with_reducible assumption) | assumption)
                                obtain ⟨ad129, e129, hx129_0⟩ := Kd.at_int HR128_2.out x7_4 p129 q129
                                cases e129
                                replace p129 := eq_true p129
                                replace q129 := eq_true q129
                                go_wp2
                                go_roundg k4
                                case measure => have := HJ2.out; have := HK2.out; have := HJ5.out; have := HK4.out; omega
                                case rel => exact ⟨(decide ((rd ((rd_T54 l0 x6_2).f2) x7_4) < 1099511627776)), (wrap64 (x7_4 + 1)), (by first | rfl | (simp; done) | (simp [*]; done)), (by first | rfl | (simp; done) | (simp [*]; done)), H', ⟨by have := HJ2.out; have := HK2.out; have := HJ5.out; have := HK4.out; omega⟩, by repeat (first | exact Drawn0.refl _ | apply Drawn0.step)⟩
                              · rw [if_neg c15] at H
                                have c15b0 : decide ((-1099511627776) < (rd ((rd_T54 l0 x6_2).f2) x7_4)) = false := decide_eq_false c15
                                clear c15
                                have H' := Aside0.mk H
                                clear H
                                have p125 : 0 ≤ (x6_2 : Int) := of_decide_eq_true (by first | (with_reducible assumption) | assumption)
                                have q125 : x6_2 < (l0.length : Int) := of_decide_eq_true (by first | (with_reducible assumption) | assumption)
                                obtain ⟨ad125, A125_2, c125_2, e125, hx125_0, hx125_1, hx125_2, hl125_2, hi125_2⟩ := at_T54 HR0.out x6_2 p125 q125
                                cases e125
                                have HR125_2 := Aside0.mk hi125_2
                                have HC125_2 := Aside0.mk hl125_2
                                clear hi125_2 hl125_2
                                replace p125 := eq_true p125
                                replace q125 := eq_true q125
                                have p126 : 0 ≤ (x6_2 : Int) := of_decide_eq_true (by first | (with_reducible assumption) | assumption)
                                have q126 : x6_2 < (l0.length : Int) := of_decide_eq_true (by first | (with_reducible assumption) | assumption)
                                obtain ⟨ad126, A126_2, c126_2, e126, hx126_0, hx126_1, hx126_2, hl126_2, hi126_2⟩ := at_T54 HR0.out x6_2 p126 q126
                                obtain rfl : ad125 = ad126 := (by injection e126)
                                have HR126_2 := Aside0.mk hi126_2
                                have HC126_2 := Aside0.mk hl126_2
                                clear hi126_2 hl126_2
                                replace p126 := eq_true p126
                                replace q126 := eq_true q126
                                have ea_ := Option.some.inj (hx125_2.symm.trans hx126_2)
                                injection ea_ with ea_ en_ ec_
                                subst ea_
                                subst ec_
                                clear en_
                                have p127 : 0 ≤ (x7_4 : Int) := of_decide_eq_true (by first | (with_reducible assumption) | assumption)
                                have q127 : x7_4 < (((rd_T54 l0 x6_2).f2).length : Int) := of_decide_eq_true (by first | (with_reducible assumption) | assumption)
                                obtain ⟨ad127, e127, hx127_0⟩ := Kd.at_int HR126_2.out x7_4 p127 q127
                                cases e127
                                replace p127 := eq_true p127
                                replace q127 := eq_true q127
                                go_wp2
                                go_roundg k4
                                case measure => have := HJ2.out; have := HK2.out; have := HJ5.out; have := HK4.out; omega
                                case rel => exact ⟨(false), (wrap64 (x7_4 + 1)), (by first | rfl | (simp; done) | (simp [*]; done)), (by first | rfl | (simp; done) | (simp [*]; done)), H', ⟨by have := HJ2.out; have := HK2.out; have := HJ5.out; have := HK4.out; omega⟩, by repeat (first | exact Drawn0.refl _ | apply Drawn0.step)⟩
                            · rw [if_neg c14] at H
                              exact absurd H (by simp)
                          · replace c13 := Bool.eq_false_iff.mpr c13
                            subst c13
                            have H1 : (selvedgelaw14_few.l1 k4 l0 false x6_2 (wrap64 (x7_4 + 1))) = some r := by rw [if_neg (show ¬ (false = true) by decide)] at H; exact H
                            clear H
                            have H := H1
                            clear H1
                            have H' := Aside0.mk H
                            clear H
                            have p125 : 0 ≤ (x6_2 : Int) := of_decide_eq_true (by first | (with_reducible assumption) | assumption)
                            have q125 : x6_2 < (l0.length : Int) := of_decide_eq_true (by first | (with_reducible assumption) | assumption)
                            obtain ⟨ad125, A125_2, c125_2, e125, hx125_0, hx125_1, hx125_2, hl125_2, hi125_2⟩ := at_T54 HR0.out x6_2 p125 q125
                            cases e125
                            have HR125_2 := Aside0.mk hi125_2
                            have HC125_2 := Aside0.mk hl125_2
                            clear hi125_2 hl125_2
                            replace p125 := eq_true p125
                            replace q125 := eq_true q125
                            go_wp2
                            go_roundg k4
                            case measure => have := HJ2.out; have := HK2.out; have := HJ5.out; have := HK4.out; omega
                            case rel => exact ⟨(false), (wrap64 (x7_4 + 1)), (by first | rfl | (simp; done) | (simp [*]; done)), (by first | rfl | (simp; done) | (simp [*]; done)), H', ⟨by have := HJ2.out; have := HK2.out; have := HJ5.out; have := HK4.out; omega⟩, by repeat (first | exact Drawn0.refl _ | apply Drawn0.step)⟩
                        · rw [if_neg c12] at H
                          have c12b0 : decide (x7_4 < (((rd_T54 l0 x6_2).f2).length : Int)) = false := decide_eq_false c12
                          clear c12
                          have H' := Aside0.mk H
                          clear H
                          have p125 : 0 ≤ (x6_2 : Int) := of_decide_eq_true (by first | (with_reducible assumption) | assumption)
                          have q125 : x6_2 < (l0.length : Int) := of_decide_eq_true (by first | (with_reducible assumption) | assumption)
                          obtain ⟨ad125, A125_2, c125_2, e125, hx125_0, hx125_1, hx125_2, hl125_2, hi125_2⟩ := at_T54 HR0.out x6_2 p125 q125
                          cases e125
                          have HR125_2 := Aside0.mk hi125_2
                          have HC125_2 := Aside0.mk hl125_2
                          clear hi125_2 hl125_2
                          replace p125 := eq_true p125
                          replace q125 := eq_true q125
                          go_wp2
                          go_roundg k4
                          case measure => have := HJ2.out; have := HK2.out; have := HJ5.out; have := HK4.out; omega
                          case rel => exact ⟨(x5_4), (wrap64 (x6_2 + 1)), (by first | rfl | (simp; done) | (simp [*]; done)), (by first | rfl | (simp; done) | (simp [*]; done)), H', ⟨by have := HJ2.out; have := HK2.out; have := HJ5.out; have := HK4.out; omega⟩, by repeat (first | exact Drawn0.refl _ | apply Drawn0.step)⟩
                      · rw [if_neg c11] at H
                        exact absurd H (by simp)
                    · rw [if_neg c10] at H
                      exact absurd H (by simp)
          · rw [if_neg c5] at H
            have c5b0 : decide (x6_2 < (l0.length : Int)) = false := decide_eq_false c5
            clear c5
            obtain rfl := Option.some.inj H
            go_wp2
            go_ret
            exact ⟨by first | rfl | (simp; done) | (simp [*]; done), by repeat (first | exact Drawn0.refl _ | apply Drawn0.step)⟩

/-! ### selvedgeref05_Ints: function 39 -/
def selvedgeref05_Ints.l0 : Nat → List Int → List Int → Int → Option (Bool)
  | 0, _, _, _ => none
  | k + 1, x0, x1, x5 => if x5 < (x0.length : Int) then (if 0 ≤ x5 then (if x5 < (x1.length : Int) then (if (rd x0 x5) = (rd x1 x5) then (selvedgeref05_Ints.l0 k x0 x1 (wrap64 (x5 + 1))) else (some false)) else (none)) else (none)) else (some true)
def selvedgeref05_Ints.f (k : Nat) (l0 : List Int) (l1 : List Int) : Option (Bool) := if (l0.length : Int) = (l1.length : Int) then (selvedgeref05_Ints.l0 k l0 l1 0) else (some false)
theorem selvedgeref05_Ints.mono_l : ∀ k, (∀ y0 y1 y2, LeO (selvedgeref05_Ints.l0 k y0 y1 y2) (selvedgeref05_Ints.l0 (k + 1) y0 y1 y2))
  | 0 => fun _ _ _ r h => by simp [selvedgeref05_Ints.l0] at h
  | k + 1 => by
    have ih0 := selvedgeref05_Ints.mono_l k
    · intro y0 y1 y2
      unfold selvedgeref05_Ints.l0
      repeat' first
      | (with_reducible exact ih0 _ _ _)
      | (with_reducible exact LeO.refl _)
      | (with_reducible exact LeO.none _)
      | (with_reducible refine LeO.ite ?_ ?_)
      | (with_reducible refine LeO.bind ?_ (fun _ => ?_))
      | exact ih0 _ _ _
      | exact LeO.none _
      | refine LeO.ite ?_ ?_
      | refine LeO.bind ?_ (fun _ => ?_)
theorem selvedgeref05_Ints.mono : ∀ a0 a1 k, LeO (selvedgeref05_Ints.f k a0 a1) (selvedgeref05_Ints.f (k + 1) a0 a1) := by
  intro a0 a1 k
  have ih0 := selvedgeref05_Ints.mono_l k
  unfold selvedgeref05_Ints.f
  repeat' first
      | (with_reducible exact ih0 _ _ _)
      | (with_reducible exact LeO.refl _)
      | (with_reducible exact LeO.none _)
      | (with_reducible refine LeO.ite ?_ ?_)
      | (with_reducible refine LeO.bind ?_ (fun _ => ?_))
      | exact ih0 _ _ _
      | exact LeO.none _
      | refine LeO.ite ?_ ?_
      | refine LeO.bind ?_ (fun _ => ?_)
set_option maxHeartbeats 8000000 in
set_option maxRecDepth 100000 in
theorem selvedgeref05_Ints.calls (k : Nat) (A0 : Option Addr) (c0 : Nat) (l0 : List Int) (A1 : Option Addr) (c1 : Nat) (l1 : List Int) (r : Bool) (w : World) (hr0 : Kd.C (Kd.int .i64) w A0 l0.length l0) (hc0 : l0.length ≤ c0) (hr1 : Kd.C (Kd.int .i64) w A1 l1.length l1) (hc1 : l1.length ≤ c1) (h : selvedgeref05_Ints.f k l0 l1 = some r) :
    Calls Try.prog 39 #[.slice A0 l0.length c0, .slice A1 l1.length c1] w fun e w' => e = .returned (.bool r) ∧ Drawn0 w w' := by
  have HR0 := Aside0.mk hr0
  have HC0 := Aside0.mk hc0
  clear hr0 hc0
  have HR1 := Aside0.mk hr1
  have HC1 := Aside0.mk hc1
  clear hr1 hc1
  have H : (if (l0.length : Int) = (l1.length : Int) then (selvedgeref05_Ints.l0 k l0 l1 0) else (some false)) = some r := h
  clear h
  by_cases c3 : (l0.length : Int) = (l1.length : Int)
  · rw [if_pos c3] at H
    have c3b0 : ((l0.length : Int) == (l1.length : Int)) = true := beq_iff_eq.mpr c3
    have c3b1 : ((l0.length : Int) != (l1.length : Int)) = false := bne_eq_false_iff_eq.mpr c3
    have c3b2 : (l0.length == l1.length) = true := by first | simpa using c3 | (simp at c3 ⊢; omega)
    clear c3
    have H' := Aside0.mk H
    clear H
    go_enter Try.func39, Try.ntmps39
    go_wp2
    repeat (go_quiet (fail); try go_wp2)
    go_loopg [5] k (fun kq v5 w' => ∃ (x5_1 : Int), v5 = .int .i64 x5_1 ∧ Aside0 (selvedgeref05_Ints.l0 kq l0 l1 x5_1 = some r) ∧ Aside0 (kq ≤ k) ∧ Drawn0 w w')
    case atStart => exact ⟨(0), (by first | rfl | (simp; done) | (simp [*]; done)), H', ⟨Nat.le_refl _⟩, by repeat (first | exact Drawn0.refl _ | apply Drawn0.step)⟩
    case round =>
      clear H'
      try clear c1
      try clear p2
      try clear c3
      try clear c3b0
      try clear c3b1
      try clear c3b2
      obtain ⟨x5_1, rfl, HA, HK1, ⟨m1, rfl⟩⟩ := hrel
      cases gk with
      | zero => exact absurd HA.out (by simp [selvedgeref05_Ints.l0])
      | succ k1 =>
        have H := HA.out
        clear HA
        simp only [selvedgeref05_Ints.l0] at H
        by_cases c4 : x5_1 < (l0.length : Int)
        · rw [if_pos c4] at H
          have c4b0 : decide (x5_1 < (l0.length : Int)) = true := decide_eq_true c4
          clear c4
          by_cases c5 : 0 ≤ x5_1
          · rw [if_pos c5] at H
            have c5b0 : decide (0 ≤ x5_1) = true := decide_eq_true c5
            clear c5
            by_cases c6 : x5_1 < (l1.length : Int)
            · rw [if_pos c6] at H
              have c6b0 : decide (x5_1 < (l1.length : Int)) = true := decide_eq_true c6
              clear c6
              by_cases c7 : (rd l0 x5_1) = (rd l1 x5_1)
              · rw [if_pos c7] at H
                have c7b0 : ((rd l0 x5_1) == (rd l1 x5_1)) = true := beq_iff_eq.mpr c7
                have c7b1 : ((rd l0 x5_1) != (rd l1 x5_1)) = false := bne_eq_false_iff_eq.mpr c7
                clear c7
                have H' := Aside0.mk H
                clear H
                have p130 : 0 ≤ (x5_1 : Int) := of_decide_eq_true (by first | (with_reducible assumption) | assumption)
                have q130 : x5_1 < (l0.length : Int) := of_decide_eq_true (by first | (with_reducible assumption) | assumption)
                obtain ⟨ad130, e130, hx130_0⟩ := Kd.at_int HR0.out x5_1 p130 q130
                cases e130
                replace p130 := eq_true p130
                replace q130 := eq_true q130
                have p131 : 0 ≤ (x5_1 : Int) := of_decide_eq_true (by first | (with_reducible assumption) | assumption)
                have q131 : x5_1 < (l1.length : Int) := of_decide_eq_true (by first | (with_reducible assumption) | assumption)
                obtain ⟨ad131, e131, hx131_0⟩ := Kd.at_int HR1.out x5_1 p131 q131
                cases e131
                replace p131 := eq_true p131
                replace q131 := eq_true q131
                go_wp2
                repeat (go_quiet (fail); try go_wp2)
                go_roundg k1
                case measure => have := HK1.out; omega
                case rel => exact ⟨(wrap64 (x5_1 + 1)), (by first | rfl | (simp; done) | (simp [*]; done)), H', ⟨by have := HK1.out; omega⟩, by repeat (first | exact Drawn0.refl _ | apply Drawn0.step)⟩
              · rw [if_neg c7] at H
                have c7b0 : ((rd l0 x5_1) == (rd l1 x5_1)) = false := beq_eq_false_iff_ne.mpr c7
                have c7b1 : ((rd l0 x5_1) != (rd l1 x5_1)) = true := bne_iff_ne.mpr c7
                obtain rfl := Option.some.inj H
                have p130 : 0 ≤ (x5_1 : Int) := of_decide_eq_true (by first | (with_reducible assumption) | assumption)
                have q130 : x5_1 < (l0.length : Int) := of_decide_eq_true (by first | (with_reducible assumption) | assumption)
                obtain ⟨ad130, e130, hx130_0⟩ := Kd.at_int HR0.out x5_1 p130 q130
                cases e130
                replace p130 := eq_true p130
                replace q130 := eq_true q130
                have p131 : 0 ≤ (x5_1 : Int) := of_decide_eq_true (by first | (with_reducible assumption) | assumption)
                have q131 : x5_1 < (l1.length : Int) := of_decide_eq_true (by first | (with_reducible assumption) | assumption)
                obtain ⟨ad131, e131, hx131_0⟩ := Kd.at_int HR1.out x5_1 p131 q131
                cases e131
                replace p131 := eq_true p131
                replace q131 := eq_true q131
                go_wp2
                repeat (go_quiet (fail); try go_wp2)
                go_ret
                exact ⟨by first | rfl | (simp; done) | (simp [*]; done), by repeat (first | exact Drawn0.refl _ | apply Drawn0.step)⟩
            · rw [if_neg c6] at H
              exact absurd H (by simp)
          · rw [if_neg c5] at H
            exact absurd H (by simp)
        · rw [if_neg c4] at H
          have c4b0 : decide (x5_1 < (l0.length : Int)) = false := decide_eq_false c4
          clear c4
          obtain rfl := Option.some.inj H
          go_wp2
          repeat (go_quiet (fail); try go_wp2)
          go_ret
          exact ⟨by first | rfl | (simp; done) | (simp [*]; done), by repeat (first | exact Drawn0.refl _ | apply Drawn0.step)⟩
  · rw [if_neg c3] at H
    have c3b0 : ((l0.length : Int) == (l1.length : Int)) = false := beq_eq_false_iff_ne.mpr c3
    have c3b1 : ((l0.length : Int) != (l1.length : Int)) = true := bne_iff_ne.mpr c3
    have c3b2 : (l0.length == l1.length) = false := by first | simpa using c3 | (simp at c3 ⊢; omega)
    obtain rfl := Option.some.inj H
    go_enter Try.func39, Try.ntmps39
    go_wp2
    repeat (go_quiet (fail); try go_wp2)
    go_ret
    exact ⟨by first | rfl | (simp; done) | (simp [*]; done), by repeat (first | exact Drawn0.refl _ | apply Drawn0.step)⟩

end Go.Proofs.Ytcbfnmabckjijaa.POrderMarks
