-- written by a program of this session (pp.py), out of the kit's print and this session's contracts
import Derived.Test.YtcbfnmabckjijaaPOrderTurnsx0
import Derived.Test.YtcbfnmabckjijaaPOrderTurnsx1
import Derived.Test.YtcbfnmabckjijaaPOrderTurnsx2
import Derived.Test.YtcbfnmabckjijaaVOrderTurnsPg
namespace Go.Proofs.Ytcbfnmabckjijaa.POrderTurns
open Go.RowKit Go.Proofs.YtcbfnmabckjijaaW.PrintWords Go.Proofs.YtcbfnmabckjijaaW.PrintLast Go.Proofs.YtcbfnmabckjijaaW.PrintMore
set_option linter.unusedVariables false
set_option linter.unusedSimpArgs false

def selvedgelaw14_shown.f (k : Nat)  : Option (Bool) := (order_Note.f ([] : List (S54)) 2 1).bind fun t116 => ((order_Note.f t116 2 3).bind fun t119 => ((order_Note.f t119 2 2).bind fun t122 => (if (t119.length : Int) = 1 then (if 0 < (t119.length : Int) then (if ((rd_T54 t119 0).f1) = 1 then (if (t122.length : Int) = 1 then (if 0 < (t122.length : Int) then (if ((rd_T54 t122 0).f1) = 3 then ((order_Fresh.f t122 2 2).bind fun t127 => (if t127 = true then (some false) else ((order_Fresh.f t122 2 4).bind fun t128 => (if t128 = true then ((order_Fresh.f t122 2 12).bind fun t129 => (if t129 = true then (some false) else ((order_Right.f k t122).bind fun t130 => (some t130)))) else (some false))))) else (some false)) else (none)) else (some false)) else (some false)) else (none)) else (some false))))
theorem selvedgelaw14_shown.mono : ∀ k, LeO (selvedgelaw14_shown.f k ) (selvedgelaw14_shown.f (k + 1) ) := by
 intro  k
 unfold selvedgelaw14_shown.f
 repeat' first
   | (with_reducible exact order_Right.mono _ _)
   | (with_reducible exact LeO.refl _)
   | (with_reducible exact LeO.none _)
   | (with_reducible refine LeO.ite ?_ ?_)
   | (with_reducible refine LeO.bind ?_ (fun _ => ?_))
   | exact order_Right.mono _ _
   | exact LeO.none _
   | refine LeO.ite ?_ ?_
   | refine LeO.bind ?_ (fun _ => ?_)
set_option maxHeartbeats 8000000 in
set_option maxRecDepth 100000 in
theorem selvedgelaw14_shown.calls (k : Nat)  (r : Bool) (w : World) (h : selvedgelaw14_shown.f k  = some r) :
  Calls Try.prog 16 #[] w fun e w' => e = .returned (.bool r) ∧ Below w.heap.size w w' := by
 have HB := am_ (Below.refl w.heap.size w)
 have H : ((order_Note.f ([] : List (S54)) 2 1).bind fun t116 => ((order_Note.f t116 2 3).bind fun t119 => ((order_Note.f t119 2 2).bind fun t122 => (if (t119.length : Int) = 1 then (if 0 < (t119.length : Int) then (if ((rd_T54 t119 0).f1) = 1 then (if (t122.length : Int) = 1 then (if 0 < (t122.length : Int) then (if ((rd_T54 t122 0).f1) = 3 then ((order_Fresh.f t122 2 2).bind fun t127 => (if t127 = true then (some false) else ((order_Fresh.f t122 2 4).bind fun t128 => (if t128 = true then ((order_Fresh.f t122 2 12).bind fun t129 => (if t129 = true then (some false) else ((order_Right.f k t122).bind fun t130 => (some t130)))) else (some false))))) else (some false)) else (none)) else (some false)) else (some false)) else (none)) else (some false))))) = some r := h
 clear h
 replace H := Option.bind_eq_some_iff.mp H
 obtain ⟨t116, A10, H⟩ := H
 replace H : ((order_Note.f t116 2 3).bind fun t119 => ((order_Note.f t119 2 2).bind fun t122 => (if (t119.length : Int) = 1 then (if 0 < (t119.length : Int) then (if ((rd_T54 t119 0).f1) = 1 then (if (t122.length : Int) = 1 then (if 0 < (t122.length : Int) then (if ((rd_T54 t122 0).f1) = 3 then ((order_Fresh.f t122 2 2).bind fun t127 => (if t127 = true then (some false) else ((order_Fresh.f t122 2 4).bind fun t128 => (if t128 = true then ((order_Fresh.f t122 2 12).bind fun t129 => (if t129 = true then (some false) else ((order_Right.f k t122).bind fun t130 => (some t130)))) else (some false))))) else (some false)) else (none)) else (some false)) else (some false)) else (none)) else (some false)))) = some r := H
 have A1 := am_ A10
 clear A10
 replace H := Option.bind_eq_some_iff.mp H
 obtain ⟨t119, A20, H⟩ := H
 replace H : ((order_Note.f t119 2 2).bind fun t122 => (if (t119.length : Int) = 1 then (if 0 < (t119.length : Int) then (if ((rd_T54 t119 0).f1) = 1 then (if (t122.length : Int) = 1 then (if 0 < (t122.length : Int) then (if ((rd_T54 t122 0).f1) = 3 then ((order_Fresh.f t122 2 2).bind fun t127 => (if t127 = true then (some false) else ((order_Fresh.f t122 2 4).bind fun t128 => (if t128 = true then ((order_Fresh.f t122 2 12).bind fun t129 => (if t129 = true then (some false) else ((order_Right.f k t122).bind fun t130 => (some t130)))) else (some false))))) else (some false)) else (none)) else (some false)) else (some false)) else (none)) else (some false))) = some r := H
 have A2 := am_ A20
 clear A20
 replace H := Option.bind_eq_some_iff.mp H
 obtain ⟨t122, A30, H⟩ := H
 replace H : (if (t119.length : Int) = 1 then (if 0 < (t119.length : Int) then (if ((rd_T54 t119 0).f1) = 1 then (if (t122.length : Int) = 1 then (if 0 < (t122.length : Int) then (if ((rd_T54 t122 0).f1) = 3 then ((order_Fresh.f t122 2 2).bind fun t127 => (if t127 = true then (some false) else ((order_Fresh.f t122 2 4).bind fun t128 => (if t128 = true then ((order_Fresh.f t122 2 12).bind fun t129 => (if t129 = true then (some false) else ((order_Right.f k t122).bind fun t130 => (some t130)))) else (some false))))) else (some false)) else (none)) else (some false)) else (some false)) else (none)) else (some false)) = some r := H
 have A3 := am_ A30
 clear A30
 by_cases c4 : (t119.length : Int) = 1
 ·
  rw [if_pos c4] at H
  have c4b0 : ((t119.length : Int) == 1) = true := beq_iff_eq.mpr c4
  have c4b1 : ((t119.length : Int) != 1) = false := bne_eq_false_iff_eq.mpr c4
  clear c4
  revert H
  refine gi' (fun c5 H => ?_)
  have c5b0 : decide (0 < (t119.length : Int)) = true := decide_eq_true c5
  have c5b1 : decide (0 < t119.length) = true := decide_eq_true (by omega)
  clear c5
  by_cases c6 : ((rd_T54 t119 0).f1) = 1
  ·
   rw [if_pos c6] at H
   have c6b0 : (((rd_T54 t119 0).f1) == 1) = true := beq_iff_eq.mpr c6
   have c6b1 : (((rd_T54 t119 0).f1) != 1) = false := bne_eq_false_iff_eq.mpr c6
   clear c6
   by_cases c7 : (t122.length : Int) = 1
   ·
    rw [if_pos c7] at H
    have c7b0 : ((t122.length : Int) == 1) = true := beq_iff_eq.mpr c7
    have c7b1 : ((t122.length : Int) != 1) = false := bne_eq_false_iff_eq.mpr c7
    clear c7
    revert H
    refine gi' (fun c8 H => ?_)
    have c8b0 : decide (0 < (t122.length : Int)) = true := decide_eq_true c8
    have c8b1 : decide (0 < t122.length) = true := decide_eq_true (by omega)
    clear c8
    by_cases c9 : ((rd_T54 t122 0).f1) = 3
    ·
     rw [if_pos c9] at H
     have c9b0 : (((rd_T54 t122 0).f1) == 3) = true := beq_iff_eq.mpr c9
     have c9b1 : (((rd_T54 t122 0).f1) != 3) = false := bne_eq_false_iff_eq.mpr c9
     clear c9
     replace H := Option.bind_eq_some_iff.mp H
     obtain ⟨t127, A100, H⟩ := H
     replace H : (if t127 = true then (some false) else ((order_Fresh.f t122 2 4).bind fun t128 => (if t128 = true then ((order_Fresh.f t122 2 12).bind fun t129 => (if t129 = true then (some false) else ((order_Right.f k t122).bind fun t130 => (some t130)))) else (some false)))) = some r := H
     have A10 := am_ A100
     clear A100
     by_cases c11 : t127 = true
     ·
      subst c11
      have H1 : (some false) = some r := by rw [if_pos rfl] at H; exact H
      clear H
      have H := H1
      clear H1
      obtain rfl := Option.some.inj H
      go_enter Try.func16, Try.ntmps16
      go_wp2_with (first | ((with_reducible refine gate_callee (f := 19) rfl ?_); refine goesL_ (some 3) rfl rfl Try.func19 (by kernel_rfl) rfl #[.slice none 0 0, .int .i64 2, .int .i64 1] rfl (by (try simp only [List.map_toArray, List.map_cons, List.map_nil]); first | done | rfl | (simp only [List.length_drop, List.length_take]; rfl)) ?_; (refine (order_Note.calls (fun k_ => False) _ _ ([] : List (S54)) 2 1 t116 _ ?side1 A1.out).mono ?_); (case side1 => exact Kd.V_nil _ _ _ _ _); rintro e w12 ⟨v117, rfl, ho0, hb⟩; refine ⟨_, rfl, ?_⟩; have HO118 := am_ (Kd.V_lower (Kd.V_mono (ok' := fun k_ => True) ho0 (fun k_ hk_ => trivial)) (below_size (bh HB))); replace HB := tHb HB hb; (try clear hb); (try clear hb2); (try clear hk); (try clear hi); (try clear ho0); obtain ⟨Ao13, co13, eo13⟩ := Kd.V_slice HO118.out; subst eo13) | ((with_reducible refine gate_callee (f := 19) rfl ?_); refine goesL_ (some 4) rfl rfl Try.func19 (by kernel_rfl) rfl #[.slice Ao13 t116.length co13, .int .i64 2, .int .i64 3] rfl (by (try simp only [List.map_toArray, List.map_cons, List.map_nil]); first | done | rfl | (simp only [List.length_drop, List.length_take]; rfl)) ?_; (with_reducible refine (order_Note.calls (fun k_ => True) _ _ t116 2 3 t119 _ ?side1 A2.out).mono ?_); (case side1 => exact HO118.out); rintro e w14 ⟨v120, rfl, ho0, hb⟩; refine ⟨_, rfl, ?_⟩; replace HO118 := tVb HO118 hb; have HO121 := am_ (Kd.V_lower (Kd.V_mono (ok' := fun k_ => True) ho0 (fun k_ hk_ => trivial)) (below_size (bh HB))); replace HB := tHb HB hb; (try clear hb); (try clear hb2); (try clear hk); (try clear hi); (try clear ho0); obtain ⟨Ao15, co15, eo15⟩ := Kd.V_slice HO121.out; subst eo15) | ((with_reducible refine gate_callee (f := 19) rfl ?_); refine goesL_ (some 6) rfl rfl Try.func19 (by kernel_rfl) rfl #[.slice Ao15 t119.length co15, .int .i64 2, .int .i64 2] rfl (by (try simp only [List.map_toArray, List.map_cons, List.map_nil]); first | done | rfl | (simp only [List.length_drop, List.length_take]; rfl)) ?_; (with_reducible refine (order_Note.calls (fun k_ => True) _ _ t119 2 2 t122 _ ?side1 A3.out).mono ?_); (case side1 => exact HO121.out); rintro e w16 ⟨v123, rfl, ho0, hb⟩; refine ⟨_, rfl, ?_⟩; replace HO118 := tVb HO118 hb; replace HO121 := tVb HO121 hb; have HO124 := am_ (Kd.V_lower (Kd.V_mono (ok' := fun k_ => True) ho0 (fun k_ hk_ => trivial)) (below_size (bh HB))); replace HB := tHb HB hb; (try clear hb); (try clear hb2); (try clear hk); (try clear hi); (try clear ho0); have p125 : 0 ≤ (0 : Int) := (by omega); have q125 : 0 < (t119.length : Int) := of_decide_eq_true ‹_›; obtain ⟨ad125, A125_2, c125_2, e125, hx125_0, hx125_1, hx125_2, hl125_2, hi125_2⟩ := at_T54 (Kd.V_reads' HO121.out).2.2 0 p125 q125; cases e125; obtain ⟨ce125, hce125, hMe125, hcc125⟩ := Kd.V_get HO121.out z54 0 p125 (by first | exact q125 | exact of_decide_eq_true ‹_› | (have e_ := (Kd.V_reads' HO121.out).1; omega)); obtain ⟨ua125_2, uc125_2, rfl, ul125_2, ge125_2⟩ := k54_openF hMe125; have hv125_2 := hcc125 2 _ rfl; rw [add_field _ _ 2 (by omega)] at hv125_2; replace hv125_2 := Option.some.inj (hv125_2.symm.trans hx125_2); injection hv125_2 with hva_ hvn_ hvc_; rw [hva_] at ge125_2; rw [hvc_] at ul125_2; have HL125_2 := am_ (show Kd.V (Kd.int .i64) 3 _ w.heap.size _ _ ((rd_T54 t119 0).f2) from Kd.V_mk ul125_2 ge125_2); clear hva_ hvn_ hvc_ ge125_2 ul125_2 hcc125 hce125; have qi125 : (0 < t119.length) = True := eq_true (by omega); (try rw [show ((0 : Int)).toNat = 0 from rfl] at hx125_0); (try rw [show 0 * 3 = 0 from rfl] at hx125_0); (try rw [Addr.add_zero'] at hx125_0); (try rw [show ((0 : Int)).toNat = 0 from rfl] at hx125_1); (try rw [show 0 * 3 = 0 from rfl] at hx125_1); (try rw [Addr.add_zero'] at hx125_1); (try rw [show ((0 : Int)).toNat = 0 from rfl] at hx125_2); (try rw [show 0 * 3 = 0 from rfl] at hx125_2); (try rw [Addr.add_zero'] at hx125_2); have HR125_2 := am_ hi125_2; have HC125_2 := am_ hl125_2; clear hi125_2 hl125_2; replace p125 := eq_true p125; replace q125 := eq_true q125; obtain ⟨Ao17, co17, eo17⟩ := Kd.V_slice HO124.out; subst eo17; have p126 : 0 ≤ (0 : Int) := (by omega); have q126 : 0 < (t122.length : Int) := of_decide_eq_true ‹_›; obtain ⟨ad126, A126_2, c126_2, e126, hx126_0, hx126_1, hx126_2, hl126_2, hi126_2⟩ := at_T54 (Kd.V_reads' HO124.out).2.2 0 p126 q126; cases e126; obtain ⟨ce126, hce126, hMe126, hcc126⟩ := Kd.V_get HO124.out z54 0 p126 (by first | exact q126 | exact of_decide_eq_true ‹_› | (have e_ := (Kd.V_reads' HO124.out).1; omega)); obtain ⟨ua126_2, uc126_2, rfl, ul126_2, ge126_2⟩ := k54_openF hMe126; have hv126_2 := hcc126 2 _ rfl; rw [add_field _ _ 2 (by omega)] at hv126_2; replace hv126_2 := Option.some.inj (hv126_2.symm.trans hx126_2); injection hv126_2 with hva_ hvn_ hvc_; rw [hva_] at ge126_2; rw [hvc_] at ul126_2; have HL126_2 := am_ (show Kd.V (Kd.int .i64) 3 _ w.heap.size _ _ ((rd_T54 t122 0).f2) from Kd.V_mk ul126_2 ge126_2); clear hva_ hvn_ hvc_ ge126_2 ul126_2 hcc126 hce126; have qi126 : (0 < t122.length) = True := eq_true (by omega); (try rw [show ((0 : Int)).toNat = 0 from rfl] at hx126_0); (try rw [show 0 * 3 = 0 from rfl] at hx126_0); (try rw [Addr.add_zero'] at hx126_0); (try rw [show ((0 : Int)).toNat = 0 from rfl] at hx126_1); (try rw [show 0 * 3 = 0 from rfl] at hx126_1); (try rw [Addr.add_zero'] at hx126_1); (try rw [show ((0 : Int)).toNat = 0 from rfl] at hx126_2); (try rw [show 0 * 3 = 0 from rfl] at hx126_2); (try rw [Addr.add_zero'] at hx126_2); have HR126_2 := am_ hi126_2; have HC126_2 := am_ hl126_2; clear hi126_2 hl126_2; replace p126 := eq_true p126; replace q126 := eq_true q126) | (go_at_call 21; (with_reducible refine (order_Fresh.calls _ _ t122 2 2 true _ ?side1 ?side2 A10.out).mono ?_); (case side1 => repeat (first | exact (Kd.V_reads' HO124.out).2.2 | (with_reducible refine Kd.C_alloc ?_ _) | (with_reducible refine Kd.C_drewN ?_ _) | (with_reducible refine Kd.C_drew ?_))); (case side2 => exact (Kd.V_reads' HO124.out).2.1); rintro e w18 ⟨rfl, hb⟩; replace HO118 := tVb HO118 hb; replace HO121 := tVb HO121 hb; replace HO124 := tVb HO124 hb; replace HL125_2 := tVb HL125_2 hb; replace HL126_2 := tVb HL126_2 hb; replace HR125_2 := tCb HR125_2 hb; replace HR126_2 := tCb HR126_2 hb; replace HB := tHb HB hb; (try clear hb); (try clear hb2); (try clear hk); (try clear hi)))
      go_ret
      exact ⟨by first | rfl | (simp [errW_none, errW_some] <;> rfl) | (simp [*, errW_none, errW_some] <;> rfl), bh HB⟩
     replace c11 := Bool.eq_false_iff.mpr c11
     subst c11
     have H1 : ((order_Fresh.f t122 2 4).bind fun t128 => (if t128 = true then ((order_Fresh.f t122 2 12).bind fun t129 => (if t129 = true then (some false) else ((order_Right.f k t122).bind fun t130 => (some t130)))) else (some false))) = some r := by rw [if_neg (show ¬ (false = true) by decide)] at H; exact H
     clear H
     have H := H1
     clear H1
     replace H := Option.bind_eq_some_iff.mp H
     obtain ⟨t128, A190, H⟩ := H
     replace H : (if t128 = true then ((order_Fresh.f t122 2 12).bind fun t129 => (if t129 = true then (some false) else ((order_Right.f k t122).bind fun t130 => (some t130)))) else (some false)) = some r := H
     have A19 := am_ A190
     clear A190
     by_cases c20 : t128 = true
     ·
      subst c20
      have H1 : ((order_Fresh.f t122 2 12).bind fun t129 => (if t129 = true then (some false) else ((order_Right.f k t122).bind fun t130 => (some t130)))) = some r := by rw [if_pos rfl] at H; exact H
      clear H
      have H := H1
      clear H1
      replace H := Option.bind_eq_some_iff.mp H
      obtain ⟨t129, A210, H⟩ := H
      replace H : (if t129 = true then (some false) else ((order_Right.f k t122).bind fun t130 => (some t130))) = some r := H
      have A21 := am_ A210
      clear A210
      by_cases c22 : t129 = true
      ·
       subst c22
       have H1 : (some false) = some r := by rw [if_pos rfl] at H; exact H
       clear H
       have H := H1
       clear H1
       obtain rfl := Option.some.inj H
       go_enter Try.func16, Try.ntmps16
       go_wp2_with (first | ((with_reducible refine gate_callee (f := 19) rfl ?_); refine goesL_ (some 3) rfl rfl Try.func19 (by kernel_rfl) rfl #[.slice none 0 0, .int .i64 2, .int .i64 1] rfl (by (try simp only [List.map_toArray, List.map_cons, List.map_nil]); first | done | rfl | (simp only [List.length_drop, List.length_take]; rfl)) ?_; (refine (order_Note.calls (fun k_ => False) _ _ ([] : List (S54)) 2 1 t116 _ ?side1 A1.out).mono ?_); (case side1 => exact Kd.V_nil _ _ _ _ _); rintro e w23 ⟨v117, rfl, ho0, hb⟩; refine ⟨_, rfl, ?_⟩; have HO118 := am_ (Kd.V_lower (Kd.V_mono (ok' := fun k_ => True) ho0 (fun k_ hk_ => trivial)) (below_size (bh HB))); replace HB := tHb HB hb; (try clear hb); (try clear hb2); (try clear hk); (try clear hi); (try clear ho0); obtain ⟨Ao24, co24, eo24⟩ := Kd.V_slice HO118.out; subst eo24) | ((with_reducible refine gate_callee (f := 19) rfl ?_); refine goesL_ (some 4) rfl rfl Try.func19 (by kernel_rfl) rfl #[.slice Ao24 t116.length co24, .int .i64 2, .int .i64 3] rfl (by (try simp only [List.map_toArray, List.map_cons, List.map_nil]); first | done | rfl | (simp only [List.length_drop, List.length_take]; rfl)) ?_; (with_reducible refine (order_Note.calls (fun k_ => True) _ _ t116 2 3 t119 _ ?side1 A2.out).mono ?_); (case side1 => exact HO118.out); rintro e w25 ⟨v120, rfl, ho0, hb⟩; refine ⟨_, rfl, ?_⟩; replace HO118 := tVb HO118 hb; have HO121 := am_ (Kd.V_lower (Kd.V_mono (ok' := fun k_ => True) ho0 (fun k_ hk_ => trivial)) (below_size (bh HB))); replace HB := tHb HB hb; (try clear hb); (try clear hb2); (try clear hk); (try clear hi); (try clear ho0); obtain ⟨Ao26, co26, eo26⟩ := Kd.V_slice HO121.out; subst eo26) | ((with_reducible refine gate_callee (f := 19) rfl ?_); refine goesL_ (some 6) rfl rfl Try.func19 (by kernel_rfl) rfl #[.slice Ao26 t119.length co26, .int .i64 2, .int .i64 2] rfl (by (try simp only [List.map_toArray, List.map_cons, List.map_nil]); first | done | rfl | (simp only [List.length_drop, List.length_take]; rfl)) ?_; (with_reducible refine (order_Note.calls (fun k_ => True) _ _ t119 2 2 t122 _ ?side1 A3.out).mono ?_); (case side1 => exact HO121.out); rintro e w27 ⟨v123, rfl, ho0, hb⟩; refine ⟨_, rfl, ?_⟩; replace HO118 := tVb HO118 hb; replace HO121 := tVb HO121 hb; have HO124 := am_ (Kd.V_lower (Kd.V_mono (ok' := fun k_ => True) ho0 (fun k_ hk_ => trivial)) (below_size (bh HB))); replace HB := tHb HB hb; (try clear hb); (try clear hb2); (try clear hk); (try clear hi); (try clear ho0); have p125 : 0 ≤ (0 : Int) := (by omega); have q125 : 0 < (t119.length : Int) := of_decide_eq_true ‹_›; obtain ⟨ad125, A125_2, c125_2, e125, hx125_0, hx125_1, hx125_2, hl125_2, hi125_2⟩ := at_T54 (Kd.V_reads' HO121.out).2.2 0 p125 q125; cases e125; obtain ⟨ce125, hce125, hMe125, hcc125⟩ := Kd.V_get HO121.out z54 0 p125 (by first | exact q125 | exact of_decide_eq_true ‹_› | (have e_ := (Kd.V_reads' HO121.out).1; omega)); obtain ⟨ua125_2, uc125_2, rfl, ul125_2, ge125_2⟩ := k54_openF hMe125; have hv125_2 := hcc125 2 _ rfl; rw [add_field _ _ 2 (by omega)] at hv125_2; replace hv125_2 := Option.some.inj (hv125_2.symm.trans hx125_2); injection hv125_2 with hva_ hvn_ hvc_; rw [hva_] at ge125_2; rw [hvc_] at ul125_2; have HL125_2 := am_ (show Kd.V (Kd.int .i64) 3 _ w.heap.size _ _ ((rd_T54 t119 0).f2) from Kd.V_mk ul125_2 ge125_2); clear hva_ hvn_ hvc_ ge125_2 ul125_2 hcc125 hce125; have qi125 : (0 < t119.length) = True := eq_true (by omega); (try rw [show ((0 : Int)).toNat = 0 from rfl] at hx125_0); (try rw [show 0 * 3 = 0 from rfl] at hx125_0); (try rw [Addr.add_zero'] at hx125_0); (try rw [show ((0 : Int)).toNat = 0 from rfl] at hx125_1); (try rw [show 0 * 3 = 0 from rfl] at hx125_1); (try rw [Addr.add_zero'] at hx125_1); (try rw [show ((0 : Int)).toNat = 0 from rfl] at hx125_2); (try rw [show 0 * 3 = 0 from rfl] at hx125_2); (try rw [Addr.add_zero'] at hx125_2); have HR125_2 := am_ hi125_2; have HC125_2 := am_ hl125_2; clear hi125_2 hl125_2; replace p125 := eq_true p125; replace q125 := eq_true q125; obtain ⟨Ao28, co28, eo28⟩ := Kd.V_slice HO124.out; subst eo28; have p126 : 0 ≤ (0 : Int) := (by omega); have q126 : 0 < (t122.length : Int) := of_decide_eq_true ‹_›; obtain ⟨ad126, A126_2, c126_2, e126, hx126_0, hx126_1, hx126_2, hl126_2, hi126_2⟩ := at_T54 (Kd.V_reads' HO124.out).2.2 0 p126 q126; cases e126; obtain ⟨ce126, hce126, hMe126, hcc126⟩ := Kd.V_get HO124.out z54 0 p126 (by first | exact q126 | exact of_decide_eq_true ‹_› | (have e_ := (Kd.V_reads' HO124.out).1; omega)); obtain ⟨ua126_2, uc126_2, rfl, ul126_2, ge126_2⟩ := k54_openF hMe126; have hv126_2 := hcc126 2 _ rfl; rw [add_field _ _ 2 (by omega)] at hv126_2; replace hv126_2 := Option.some.inj (hv126_2.symm.trans hx126_2); injection hv126_2 with hva_ hvn_ hvc_; rw [hva_] at ge126_2; rw [hvc_] at ul126_2; have HL126_2 := am_ (show Kd.V (Kd.int .i64) 3 _ w.heap.size _ _ ((rd_T54 t122 0).f2) from Kd.V_mk ul126_2 ge126_2); clear hva_ hvn_ hvc_ ge126_2 ul126_2 hcc126 hce126; have qi126 : (0 < t122.length) = True := eq_true (by omega); (try rw [show ((0 : Int)).toNat = 0 from rfl] at hx126_0); (try rw [show 0 * 3 = 0 from rfl] at hx126_0); (try rw [Addr.add_zero'] at hx126_0); (try rw [show ((0 : Int)).toNat = 0 from rfl] at hx126_1); (try rw [show 0 * 3 = 0 from rfl] at hx126_1); (try rw [Addr.add_zero'] at hx126_1); (try rw [show ((0 : Int)).toNat = 0 from rfl] at hx126_2); (try rw [show 0 * 3 = 0 from rfl] at hx126_2); (try rw [Addr.add_zero'] at hx126_2); have HR126_2 := am_ hi126_2; have HC126_2 := am_ hl126_2; clear hi126_2 hl126_2; replace p126 := eq_true p126; replace q126 := eq_true q126) | (go_at_call 21; (with_reducible refine (order_Fresh.calls _ _ t122 2 2 false _ ?side1 ?side2 A10.out).mono ?_); (case side1 => repeat (first | exact (Kd.V_reads' HO124.out).2.2 | (with_reducible refine Kd.C_alloc ?_ _) | (with_reducible refine Kd.C_drewN ?_ _) | (with_reducible refine Kd.C_drew ?_))); (case side2 => exact (Kd.V_reads' HO124.out).2.1); rintro e w29 ⟨rfl, hb⟩; replace HO118 := tVb HO118 hb; replace HO121 := tVb HO121 hb; replace HO124 := tVb HO124 hb; replace HL125_2 := tVb HL125_2 hb; replace HL126_2 := tVb HL126_2 hb; replace HR125_2 := tCb HR125_2 hb; replace HR126_2 := tCb HR126_2 hb; replace HB := tHb HB hb; (try clear hb); (try clear hb2); (try clear hk); (try clear hi)) | (go_at_call 21; (with_reducible refine (order_Fresh.calls _ _ t122 2 4 true _ ?side1 ?side2 A19.out).mono ?_); (case side1 => repeat (first | exact (Kd.V_reads' HO124.out).2.2 | (with_reducible refine Kd.C_alloc ?_ _) | (with_reducible refine Kd.C_drewN ?_ _) | (with_reducible refine Kd.C_drew ?_))); (case side2 => exact (Kd.V_reads' HO124.out).2.1); rintro e w30 ⟨rfl, hb⟩; replace HO118 := tVb HO118 hb; replace HO121 := tVb HO121 hb; replace HO124 := tVb HO124 hb; replace HL125_2 := tVb HL125_2 hb; replace HL126_2 := tVb HL126_2 hb; replace HR125_2 := tCb HR125_2 hb; replace HR126_2 := tCb HR126_2 hb; replace HB := tHb HB hb; (try clear hb); (try clear hb2); (try clear hk); (try clear hi)) | (go_at_call 21; (with_reducible refine (order_Fresh.calls _ _ t122 2 12 true _ ?side1 ?side2 A21.out).mono ?_); (case side1 => repeat (first | exact (Kd.V_reads' HO124.out).2.2 | (with_reducible refine Kd.C_alloc ?_ _) | (with_reducible refine Kd.C_drewN ?_ _) | (with_reducible refine Kd.C_drew ?_))); (case side2 => exact (Kd.V_reads' HO124.out).2.1); rintro e w31 ⟨rfl, hb⟩; replace HO118 := tVb HO118 hb; replace HO121 := tVb HO121 hb; replace HO124 := tVb HO124 hb; replace HL125_2 := tVb HL125_2 hb; replace HL126_2 := tVb HL126_2 hb; replace HR125_2 := tCb HR125_2 hb; replace HR126_2 := tCb HR126_2 hb; replace HB := tHb HB hb; (try clear hb); (try clear hb2); (try clear hk); (try clear hi)))
       go_ret
       exact ⟨by first | rfl | (simp [errW_none, errW_some] <;> rfl) | (simp [*, errW_none, errW_some] <;> rfl), bh HB⟩
      replace c22 := Bool.eq_false_iff.mpr c22
      subst c22
      have H1 : ((order_Right.f k t122).bind fun t130 => (some t130)) = some r := by rw [if_neg (show ¬ (false = true) by decide)] at H; exact H
      clear H
      have H := H1
      clear H1
      replace H := Option.bind_eq_some_iff.mp H
      obtain ⟨t130, A320, H⟩ := H
      replace H : (some t130) = some r := H
      have A32 := am_ A320
      clear A320
      obtain rfl := Option.some.inj H
      go_enter Try.func16, Try.ntmps16
      go_wp2_with (first | ((with_reducible refine gate_callee (f := 19) rfl ?_); refine goesL_ (some 3) rfl rfl Try.func19 (by kernel_rfl) rfl #[.slice none 0 0, .int .i64 2, .int .i64 1] rfl (by (try simp only [List.map_toArray, List.map_cons, List.map_nil]); first | done | rfl | (simp only [List.length_drop, List.length_take]; rfl)) ?_; (refine (order_Note.calls (fun k_ => False) _ _ ([] : List (S54)) 2 1 t116 _ ?side1 A1.out).mono ?_); (case side1 => exact Kd.V_nil _ _ _ _ _); rintro e w33 ⟨v117, rfl, ho0, hb⟩; refine ⟨_, rfl, ?_⟩; have HO118 := am_ (Kd.V_lower (Kd.V_mono (ok' := fun k_ => True) ho0 (fun k_ hk_ => trivial)) (below_size (bh HB))); replace HB := tHb HB hb; (try clear hb); (try clear hb2); (try clear hk); (try clear hi); (try clear ho0); obtain ⟨Ao34, co34, eo34⟩ := Kd.V_slice HO118.out; subst eo34) | ((with_reducible refine gate_callee (f := 19) rfl ?_); refine goesL_ (some 4) rfl rfl Try.func19 (by kernel_rfl) rfl #[.slice Ao34 t116.length co34, .int .i64 2, .int .i64 3] rfl (by (try simp only [List.map_toArray, List.map_cons, List.map_nil]); first | done | rfl | (simp only [List.length_drop, List.length_take]; rfl)) ?_; (with_reducible refine (order_Note.calls (fun k_ => True) _ _ t116 2 3 t119 _ ?side1 A2.out).mono ?_); (case side1 => exact HO118.out); rintro e w35 ⟨v120, rfl, ho0, hb⟩; refine ⟨_, rfl, ?_⟩; replace HO118 := tVb HO118 hb; have HO121 := am_ (Kd.V_lower (Kd.V_mono (ok' := fun k_ => True) ho0 (fun k_ hk_ => trivial)) (below_size (bh HB))); replace HB := tHb HB hb; (try clear hb); (try clear hb2); (try clear hk); (try clear hi); (try clear ho0); obtain ⟨Ao36, co36, eo36⟩ := Kd.V_slice HO121.out; subst eo36) | ((with_reducible refine gate_callee (f := 19) rfl ?_); refine goesL_ (some 6) rfl rfl Try.func19 (by kernel_rfl) rfl #[.slice Ao36 t119.length co36, .int .i64 2, .int .i64 2] rfl (by (try simp only [List.map_toArray, List.map_cons, List.map_nil]); first | done | rfl | (simp only [List.length_drop, List.length_take]; rfl)) ?_; (with_reducible refine (order_Note.calls (fun k_ => True) _ _ t119 2 2 t122 _ ?side1 A3.out).mono ?_); (case side1 => exact HO121.out); rintro e w37 ⟨v123, rfl, ho0, hb⟩; refine ⟨_, rfl, ?_⟩; replace HO118 := tVb HO118 hb; replace HO121 := tVb HO121 hb; have HO124 := am_ (Kd.V_lower (Kd.V_mono (ok' := fun k_ => True) ho0 (fun k_ hk_ => trivial)) (below_size (bh HB))); replace HB := tHb HB hb; (try clear hb); (try clear hb2); (try clear hk); (try clear hi); (try clear ho0); have p125 : 0 ≤ (0 : Int) := (by omega); have q125 : 0 < (t119.length : Int) := of_decide_eq_true ‹_›; obtain ⟨ad125, A125_2, c125_2, e125, hx125_0, hx125_1, hx125_2, hl125_2, hi125_2⟩ := at_T54 (Kd.V_reads' HO121.out).2.2 0 p125 q125; cases e125; obtain ⟨ce125, hce125, hMe125, hcc125⟩ := Kd.V_get HO121.out z54 0 p125 (by first | exact q125 | exact of_decide_eq_true ‹_› | (have e_ := (Kd.V_reads' HO121.out).1; omega)); obtain ⟨ua125_2, uc125_2, rfl, ul125_2, ge125_2⟩ := k54_openF hMe125; have hv125_2 := hcc125 2 _ rfl; rw [add_field _ _ 2 (by omega)] at hv125_2; replace hv125_2 := Option.some.inj (hv125_2.symm.trans hx125_2); injection hv125_2 with hva_ hvn_ hvc_; rw [hva_] at ge125_2; rw [hvc_] at ul125_2; have HL125_2 := am_ (show Kd.V (Kd.int .i64) 3 _ w.heap.size _ _ ((rd_T54 t119 0).f2) from Kd.V_mk ul125_2 ge125_2); clear hva_ hvn_ hvc_ ge125_2 ul125_2 hcc125 hce125; have qi125 : (0 < t119.length) = True := eq_true (by omega); (try rw [show ((0 : Int)).toNat = 0 from rfl] at hx125_0); (try rw [show 0 * 3 = 0 from rfl] at hx125_0); (try rw [Addr.add_zero'] at hx125_0); (try rw [show ((0 : Int)).toNat = 0 from rfl] at hx125_1); (try rw [show 0 * 3 = 0 from rfl] at hx125_1); (try rw [Addr.add_zero'] at hx125_1); (try rw [show ((0 : Int)).toNat = 0 from rfl] at hx125_2); (try rw [show 0 * 3 = 0 from rfl] at hx125_2); (try rw [Addr.add_zero'] at hx125_2); have HR125_2 := am_ hi125_2; have HC125_2 := am_ hl125_2; clear hi125_2 hl125_2; replace p125 := eq_true p125; replace q125 := eq_true q125; obtain ⟨Ao38, co38, eo38⟩ := Kd.V_slice HO124.out; subst eo38; have p126 : 0 ≤ (0 : Int) := (by omega); have q126 : 0 < (t122.length : Int) := of_decide_eq_true ‹_›; obtain ⟨ad126, A126_2, c126_2, e126, hx126_0, hx126_1, hx126_2, hl126_2, hi126_2⟩ := at_T54 (Kd.V_reads' HO124.out).2.2 0 p126 q126; cases e126; obtain ⟨ce126, hce126, hMe126, hcc126⟩ := Kd.V_get HO124.out z54 0 p126 (by first | exact q126 | exact of_decide_eq_true ‹_› | (have e_ := (Kd.V_reads' HO124.out).1; omega)); obtain ⟨ua126_2, uc126_2, rfl, ul126_2, ge126_2⟩ := k54_openF hMe126; have hv126_2 := hcc126 2 _ rfl; rw [add_field _ _ 2 (by omega)] at hv126_2; replace hv126_2 := Option.some.inj (hv126_2.symm.trans hx126_2); injection hv126_2 with hva_ hvn_ hvc_; rw [hva_] at ge126_2; rw [hvc_] at ul126_2; have HL126_2 := am_ (show Kd.V (Kd.int .i64) 3 _ w.heap.size _ _ ((rd_T54 t122 0).f2) from Kd.V_mk ul126_2 ge126_2); clear hva_ hvn_ hvc_ ge126_2 ul126_2 hcc126 hce126; have qi126 : (0 < t122.length) = True := eq_true (by omega); (try rw [show ((0 : Int)).toNat = 0 from rfl] at hx126_0); (try rw [show 0 * 3 = 0 from rfl] at hx126_0); (try rw [Addr.add_zero'] at hx126_0); (try rw [show ((0 : Int)).toNat = 0 from rfl] at hx126_1); (try rw [show 0 * 3 = 0 from rfl] at hx126_1); (try rw [Addr.add_zero'] at hx126_1); (try rw [show ((0 : Int)).toNat = 0 from rfl] at hx126_2); (try rw [show 0 * 3 = 0 from rfl] at hx126_2); (try rw [Addr.add_zero'] at hx126_2); have HR126_2 := am_ hi126_2; have HC126_2 := am_ hl126_2; clear hi126_2 hl126_2; replace p126 := eq_true p126; replace q126 := eq_true q126) | (go_at_call 21; (with_reducible refine (order_Fresh.calls _ _ t122 2 2 false _ ?side1 ?side2 A10.out).mono ?_); (case side1 => repeat (first | exact (Kd.V_reads' HO124.out).2.2 | (with_reducible refine Kd.C_alloc ?_ _) | (with_reducible refine Kd.C_drewN ?_ _) | (with_reducible refine Kd.C_drew ?_))); (case side2 => exact (Kd.V_reads' HO124.out).2.1); rintro e w39 ⟨rfl, hb⟩; replace HO118 := tVb HO118 hb; replace HO121 := tVb HO121 hb; replace HO124 := tVb HO124 hb; replace HL125_2 := tVb HL125_2 hb; replace HL126_2 := tVb HL126_2 hb; replace HR125_2 := tCb HR125_2 hb; replace HR126_2 := tCb HR126_2 hb; replace HB := tHb HB hb; (try clear hb); (try clear hb2); (try clear hk); (try clear hi)) | (go_at_call 21; (with_reducible refine (order_Fresh.calls _ _ t122 2 4 true _ ?side1 ?side2 A19.out).mono ?_); (case side1 => repeat (first | exact (Kd.V_reads' HO124.out).2.2 | (with_reducible refine Kd.C_alloc ?_ _) | (with_reducible refine Kd.C_drewN ?_ _) | (with_reducible refine Kd.C_drew ?_))); (case side2 => exact (Kd.V_reads' HO124.out).2.1); rintro e w40 ⟨rfl, hb⟩; replace HO118 := tVb HO118 hb; replace HO121 := tVb HO121 hb; replace HO124 := tVb HO124 hb; replace HL125_2 := tVb HL125_2 hb; replace HL126_2 := tVb HL126_2 hb; replace HR125_2 := tCb HR125_2 hb; replace HR126_2 := tCb HR126_2 hb; replace HB := tHb HB hb; (try clear hb); (try clear hb2); (try clear hk); (try clear hi)) | (go_at_call 21; (with_reducible refine (order_Fresh.calls _ _ t122 2 12 false _ ?side1 ?side2 A21.out).mono ?_); (case side1 => repeat (first | exact (Kd.V_reads' HO124.out).2.2 | (with_reducible refine Kd.C_alloc ?_ _) | (with_reducible refine Kd.C_drewN ?_ _) | (with_reducible refine Kd.C_drew ?_))); (case side2 => exact (Kd.V_reads' HO124.out).2.1); rintro e w41 ⟨rfl, hb⟩; replace HO118 := tVb HO118 hb; replace HO121 := tVb HO121 hb; replace HO124 := tVb HO124 hb; replace HL125_2 := tVb HL125_2 hb; replace HL126_2 := tVb HL126_2 hb; replace HR125_2 := tCb HR125_2 hb; replace HR126_2 := tCb HR126_2 hb; replace HB := tHb HB hb; (try clear hb); (try clear hb2); (try clear hk); (try clear hi)) | (go_at_call 23; (with_reducible refine (order_Right.calls k _ _ t122 t130 _ ?side1 ?side2 A32.out).mono ?_); (case side1 => repeat (first | exact (Kd.V_reads' HO124.out).2.2 | (with_reducible refine Kd.C_alloc ?_ _) | (with_reducible refine Kd.C_drewN ?_ _) | (with_reducible refine Kd.C_drew ?_))); (case side2 => exact (Kd.V_reads' HO124.out).2.1); rintro e w42 ⟨rfl, hb⟩; replace HO118 := tVb HO118 hb; replace HO121 := tVb HO121 hb; replace HO124 := tVb HO124 hb; replace HL125_2 := tVb HL125_2 hb; replace HL126_2 := tVb HL126_2 hb; replace HR125_2 := tCb HR125_2 hb; replace HR126_2 := tCb HR126_2 hb; replace HB := tHb HB hb; (try clear hb); (try clear hb2); (try clear hk); (try clear hi)))
      go_ret
      exact ⟨by first | rfl | (simp [errW_none, errW_some] <;> rfl) | (simp [*, errW_none, errW_some] <;> rfl), bh HB⟩
     replace c20 := Bool.eq_false_iff.mpr c20
     subst c20
     have H1 : (some false) = some r := by rw [if_neg (show ¬ (false = true) by decide)] at H; exact H
     clear H
     have H := H1
     clear H1
     obtain rfl := Option.some.inj H
     go_enter Try.func16, Try.ntmps16
     go_wp2_with (first | ((with_reducible refine gate_callee (f := 19) rfl ?_); refine goesL_ (some 3) rfl rfl Try.func19 (by kernel_rfl) rfl #[.slice none 0 0, .int .i64 2, .int .i64 1] rfl (by (try simp only [List.map_toArray, List.map_cons, List.map_nil]); first | done | rfl | (simp only [List.length_drop, List.length_take]; rfl)) ?_; (refine (order_Note.calls (fun k_ => False) _ _ ([] : List (S54)) 2 1 t116 _ ?side1 A1.out).mono ?_); (case side1 => exact Kd.V_nil _ _ _ _ _); rintro e w43 ⟨v117, rfl, ho0, hb⟩; refine ⟨_, rfl, ?_⟩; have HO118 := am_ (Kd.V_lower (Kd.V_mono (ok' := fun k_ => True) ho0 (fun k_ hk_ => trivial)) (below_size (bh HB))); replace HB := tHb HB hb; (try clear hb); (try clear hb2); (try clear hk); (try clear hi); (try clear ho0); obtain ⟨Ao44, co44, eo44⟩ := Kd.V_slice HO118.out; subst eo44) | ((with_reducible refine gate_callee (f := 19) rfl ?_); refine goesL_ (some 4) rfl rfl Try.func19 (by kernel_rfl) rfl #[.slice Ao44 t116.length co44, .int .i64 2, .int .i64 3] rfl (by (try simp only [List.map_toArray, List.map_cons, List.map_nil]); first | done | rfl | (simp only [List.length_drop, List.length_take]; rfl)) ?_; (with_reducible refine (order_Note.calls (fun k_ => True) _ _ t116 2 3 t119 _ ?side1 A2.out).mono ?_); (case side1 => exact HO118.out); rintro e w45 ⟨v120, rfl, ho0, hb⟩; refine ⟨_, rfl, ?_⟩; replace HO118 := tVb HO118 hb; have HO121 := am_ (Kd.V_lower (Kd.V_mono (ok' := fun k_ => True) ho0 (fun k_ hk_ => trivial)) (below_size (bh HB))); replace HB := tHb HB hb; (try clear hb); (try clear hb2); (try clear hk); (try clear hi); (try clear ho0); obtain ⟨Ao46, co46, eo46⟩ := Kd.V_slice HO121.out; subst eo46) | ((with_reducible refine gate_callee (f := 19) rfl ?_); refine goesL_ (some 6) rfl rfl Try.func19 (by kernel_rfl) rfl #[.slice Ao46 t119.length co46, .int .i64 2, .int .i64 2] rfl (by (try simp only [List.map_toArray, List.map_cons, List.map_nil]); first | done | rfl | (simp only [List.length_drop, List.length_take]; rfl)) ?_; (with_reducible refine (order_Note.calls (fun k_ => True) _ _ t119 2 2 t122 _ ?side1 A3.out).mono ?_); (case side1 => exact HO121.out); rintro e w47 ⟨v123, rfl, ho0, hb⟩; refine ⟨_, rfl, ?_⟩; replace HO118 := tVb HO118 hb; replace HO121 := tVb HO121 hb; have HO124 := am_ (Kd.V_lower (Kd.V_mono (ok' := fun k_ => True) ho0 (fun k_ hk_ => trivial)) (below_size (bh HB))); replace HB := tHb HB hb; (try clear hb); (try clear hb2); (try clear hk); (try clear hi); (try clear ho0); have p125 : 0 ≤ (0 : Int) := (by omega); have q125 : 0 < (t119.length : Int) := of_decide_eq_true ‹_›; obtain ⟨ad125, A125_2, c125_2, e125, hx125_0, hx125_1, hx125_2, hl125_2, hi125_2⟩ := at_T54 (Kd.V_reads' HO121.out).2.2 0 p125 q125; cases e125; obtain ⟨ce125, hce125, hMe125, hcc125⟩ := Kd.V_get HO121.out z54 0 p125 (by first | exact q125 | exact of_decide_eq_true ‹_› | (have e_ := (Kd.V_reads' HO121.out).1; omega)); obtain ⟨ua125_2, uc125_2, rfl, ul125_2, ge125_2⟩ := k54_openF hMe125; have hv125_2 := hcc125 2 _ rfl; rw [add_field _ _ 2 (by omega)] at hv125_2; replace hv125_2 := Option.some.inj (hv125_2.symm.trans hx125_2); injection hv125_2 with hva_ hvn_ hvc_; rw [hva_] at ge125_2; rw [hvc_] at ul125_2; have HL125_2 := am_ (show Kd.V (Kd.int .i64) 3 _ w.heap.size _ _ ((rd_T54 t119 0).f2) from Kd.V_mk ul125_2 ge125_2); clear hva_ hvn_ hvc_ ge125_2 ul125_2 hcc125 hce125; have qi125 : (0 < t119.length) = True := eq_true (by omega); (try rw [show ((0 : Int)).toNat = 0 from rfl] at hx125_0); (try rw [show 0 * 3 = 0 from rfl] at hx125_0); (try rw [Addr.add_zero'] at hx125_0); (try rw [show ((0 : Int)).toNat = 0 from rfl] at hx125_1); (try rw [show 0 * 3 = 0 from rfl] at hx125_1); (try rw [Addr.add_zero'] at hx125_1); (try rw [show ((0 : Int)).toNat = 0 from rfl] at hx125_2); (try rw [show 0 * 3 = 0 from rfl] at hx125_2); (try rw [Addr.add_zero'] at hx125_2); have HR125_2 := am_ hi125_2; have HC125_2 := am_ hl125_2; clear hi125_2 hl125_2; replace p125 := eq_true p125; replace q125 := eq_true q125; obtain ⟨Ao48, co48, eo48⟩ := Kd.V_slice HO124.out; subst eo48; have p126 : 0 ≤ (0 : Int) := (by omega); have q126 : 0 < (t122.length : Int) := of_decide_eq_true ‹_›; obtain ⟨ad126, A126_2, c126_2, e126, hx126_0, hx126_1, hx126_2, hl126_2, hi126_2⟩ := at_T54 (Kd.V_reads' HO124.out).2.2 0 p126 q126; cases e126; obtain ⟨ce126, hce126, hMe126, hcc126⟩ := Kd.V_get HO124.out z54 0 p126 (by first | exact q126 | exact of_decide_eq_true ‹_› | (have e_ := (Kd.V_reads' HO124.out).1; omega)); obtain ⟨ua126_2, uc126_2, rfl, ul126_2, ge126_2⟩ := k54_openF hMe126; have hv126_2 := hcc126 2 _ rfl; rw [add_field _ _ 2 (by omega)] at hv126_2; replace hv126_2 := Option.some.inj (hv126_2.symm.trans hx126_2); injection hv126_2 with hva_ hvn_ hvc_; rw [hva_] at ge126_2; rw [hvc_] at ul126_2; have HL126_2 := am_ (show Kd.V (Kd.int .i64) 3 _ w.heap.size _ _ ((rd_T54 t122 0).f2) from Kd.V_mk ul126_2 ge126_2); clear hva_ hvn_ hvc_ ge126_2 ul126_2 hcc126 hce126; have qi126 : (0 < t122.length) = True := eq_true (by omega); (try rw [show ((0 : Int)).toNat = 0 from rfl] at hx126_0); (try rw [show 0 * 3 = 0 from rfl] at hx126_0); (try rw [Addr.add_zero'] at hx126_0); (try rw [show ((0 : Int)).toNat = 0 from rfl] at hx126_1); (try rw [show 0 * 3 = 0 from rfl] at hx126_1); (try rw [Addr.add_zero'] at hx126_1); (try rw [show ((0 : Int)).toNat = 0 from rfl] at hx126_2); (try rw [show 0 * 3 = 0 from rfl] at hx126_2); (try rw [Addr.add_zero'] at hx126_2); have HR126_2 := am_ hi126_2; have HC126_2 := am_ hl126_2; clear hi126_2 hl126_2; replace p126 := eq_true p126; replace q126 := eq_true q126) | (go_at_call 21; (with_reducible refine (order_Fresh.calls _ _ t122 2 2 false _ ?side1 ?side2 A10.out).mono ?_); (case side1 => repeat (first | exact (Kd.V_reads' HO124.out).2.2 | (with_reducible refine Kd.C_alloc ?_ _) | (with_reducible refine Kd.C_drewN ?_ _) | (with_reducible refine Kd.C_drew ?_))); (case side2 => exact (Kd.V_reads' HO124.out).2.1); rintro e w49 ⟨rfl, hb⟩; replace HO118 := tVb HO118 hb; replace HO121 := tVb HO121 hb; replace HO124 := tVb HO124 hb; replace HL125_2 := tVb HL125_2 hb; replace HL126_2 := tVb HL126_2 hb; replace HR125_2 := tCb HR125_2 hb; replace HR126_2 := tCb HR126_2 hb; replace HB := tHb HB hb; (try clear hb); (try clear hb2); (try clear hk); (try clear hi)) | (go_at_call 21; (with_reducible refine (order_Fresh.calls _ _ t122 2 4 false _ ?side1 ?side2 A19.out).mono ?_); (case side1 => repeat (first | exact (Kd.V_reads' HO124.out).2.2 | (with_reducible refine Kd.C_alloc ?_ _) | (with_reducible refine Kd.C_drewN ?_ _) | (with_reducible refine Kd.C_drew ?_))); (case side2 => exact (Kd.V_reads' HO124.out).2.1); rintro e w50 ⟨rfl, hb⟩; replace HO118 := tVb HO118 hb; replace HO121 := tVb HO121 hb; replace HO124 := tVb HO124 hb; replace HL125_2 := tVb HL125_2 hb; replace HL126_2 := tVb HL126_2 hb; replace HR125_2 := tCb HR125_2 hb; replace HR126_2 := tCb HR126_2 hb; replace HB := tHb HB hb; (try clear hb); (try clear hb2); (try clear hk); (try clear hi)))
     go_ret
     exact ⟨by first | rfl | (simp [errW_none, errW_some] <;> rfl) | (simp [*, errW_none, errW_some] <;> rfl), bh HB⟩
    rw [if_neg c9] at H
    have c9b0 : (((rd_T54 t122 0).f1) == 3) = false := beq_eq_false_iff_ne.mpr c9
    have c9b1 : (((rd_T54 t122 0).f1) != 3) = true := bne_iff_ne.mpr c9
    obtain rfl := Option.some.inj H
    go_enter Try.func16, Try.ntmps16
    go_wp2_with (first | ((with_reducible refine gate_callee (f := 19) rfl ?_); refine goesL_ (some 3) rfl rfl Try.func19 (by kernel_rfl) rfl #[.slice none 0 0, .int .i64 2, .int .i64 1] rfl (by (try simp only [List.map_toArray, List.map_cons, List.map_nil]); first | done | rfl | (simp only [List.length_drop, List.length_take]; rfl)) ?_; (refine (order_Note.calls (fun k_ => False) _ _ ([] : List (S54)) 2 1 t116 _ ?side1 A1.out).mono ?_); (case side1 => exact Kd.V_nil _ _ _ _ _); rintro e w51 ⟨v117, rfl, ho0, hb⟩; refine ⟨_, rfl, ?_⟩; have HO118 := am_ (Kd.V_lower (Kd.V_mono (ok' := fun k_ => True) ho0 (fun k_ hk_ => trivial)) (below_size (bh HB))); replace HB := tHb HB hb; (try clear hb); (try clear hb2); (try clear hk); (try clear hi); (try clear ho0); obtain ⟨Ao52, co52, eo52⟩ := Kd.V_slice HO118.out; subst eo52) | ((with_reducible refine gate_callee (f := 19) rfl ?_); refine goesL_ (some 4) rfl rfl Try.func19 (by kernel_rfl) rfl #[.slice Ao52 t116.length co52, .int .i64 2, .int .i64 3] rfl (by (try simp only [List.map_toArray, List.map_cons, List.map_nil]); first | done | rfl | (simp only [List.length_drop, List.length_take]; rfl)) ?_; (with_reducible refine (order_Note.calls (fun k_ => True) _ _ t116 2 3 t119 _ ?side1 A2.out).mono ?_); (case side1 => exact HO118.out); rintro e w53 ⟨v120, rfl, ho0, hb⟩; refine ⟨_, rfl, ?_⟩; replace HO118 := tVb HO118 hb; have HO121 := am_ (Kd.V_lower (Kd.V_mono (ok' := fun k_ => True) ho0 (fun k_ hk_ => trivial)) (below_size (bh HB))); replace HB := tHb HB hb; (try clear hb); (try clear hb2); (try clear hk); (try clear hi); (try clear ho0); obtain ⟨Ao54, co54, eo54⟩ := Kd.V_slice HO121.out; subst eo54) | ((with_reducible refine gate_callee (f := 19) rfl ?_); refine goesL_ (some 6) rfl rfl Try.func19 (by kernel_rfl) rfl #[.slice Ao54 t119.length co54, .int .i64 2, .int .i64 2] rfl (by (try simp only [List.map_toArray, List.map_cons, List.map_nil]); first | done | rfl | (simp only [List.length_drop, List.length_take]; rfl)) ?_; (with_reducible refine (order_Note.calls (fun k_ => True) _ _ t119 2 2 t122 _ ?side1 A3.out).mono ?_); (case side1 => exact HO121.out); rintro e w55 ⟨v123, rfl, ho0, hb⟩; refine ⟨_, rfl, ?_⟩; replace HO118 := tVb HO118 hb; replace HO121 := tVb HO121 hb; have HO124 := am_ (Kd.V_lower (Kd.V_mono (ok' := fun k_ => True) ho0 (fun k_ hk_ => trivial)) (below_size (bh HB))); replace HB := tHb HB hb; (try clear hb); (try clear hb2); (try clear hk); (try clear hi); (try clear ho0); have p125 : 0 ≤ (0 : Int) := (by omega); have q125 : 0 < (t119.length : Int) := of_decide_eq_true ‹_›; obtain ⟨ad125, A125_2, c125_2, e125, hx125_0, hx125_1, hx125_2, hl125_2, hi125_2⟩ := at_T54 (Kd.V_reads' HO121.out).2.2 0 p125 q125; cases e125; obtain ⟨ce125, hce125, hMe125, hcc125⟩ := Kd.V_get HO121.out z54 0 p125 (by first | exact q125 | exact of_decide_eq_true ‹_› | (have e_ := (Kd.V_reads' HO121.out).1; omega)); obtain ⟨ua125_2, uc125_2, rfl, ul125_2, ge125_2⟩ := k54_openF hMe125; have hv125_2 := hcc125 2 _ rfl; rw [add_field _ _ 2 (by omega)] at hv125_2; replace hv125_2 := Option.some.inj (hv125_2.symm.trans hx125_2); injection hv125_2 with hva_ hvn_ hvc_; rw [hva_] at ge125_2; rw [hvc_] at ul125_2; have HL125_2 := am_ (show Kd.V (Kd.int .i64) 3 _ w.heap.size _ _ ((rd_T54 t119 0).f2) from Kd.V_mk ul125_2 ge125_2); clear hva_ hvn_ hvc_ ge125_2 ul125_2 hcc125 hce125; have qi125 : (0 < t119.length) = True := eq_true (by omega); (try rw [show ((0 : Int)).toNat = 0 from rfl] at hx125_0); (try rw [show 0 * 3 = 0 from rfl] at hx125_0); (try rw [Addr.add_zero'] at hx125_0); (try rw [show ((0 : Int)).toNat = 0 from rfl] at hx125_1); (try rw [show 0 * 3 = 0 from rfl] at hx125_1); (try rw [Addr.add_zero'] at hx125_1); (try rw [show ((0 : Int)).toNat = 0 from rfl] at hx125_2); (try rw [show 0 * 3 = 0 from rfl] at hx125_2); (try rw [Addr.add_zero'] at hx125_2); have HR125_2 := am_ hi125_2; have HC125_2 := am_ hl125_2; clear hi125_2 hl125_2; replace p125 := eq_true p125; replace q125 := eq_true q125; obtain ⟨Ao56, co56, eo56⟩ := Kd.V_slice HO124.out; subst eo56; have p126 : 0 ≤ (0 : Int) := (by omega); have q126 : 0 < (t122.length : Int) := of_decide_eq_true ‹_›; obtain ⟨ad126, A126_2, c126_2, e126, hx126_0, hx126_1, hx126_2, hl126_2, hi126_2⟩ := at_T54 (Kd.V_reads' HO124.out).2.2 0 p126 q126; cases e126; obtain ⟨ce126, hce126, hMe126, hcc126⟩ := Kd.V_get HO124.out z54 0 p126 (by first | exact q126 | exact of_decide_eq_true ‹_› | (have e_ := (Kd.V_reads' HO124.out).1; omega)); obtain ⟨ua126_2, uc126_2, rfl, ul126_2, ge126_2⟩ := k54_openF hMe126; have hv126_2 := hcc126 2 _ rfl; rw [add_field _ _ 2 (by omega)] at hv126_2; replace hv126_2 := Option.some.inj (hv126_2.symm.trans hx126_2); injection hv126_2 with hva_ hvn_ hvc_; rw [hva_] at ge126_2; rw [hvc_] at ul126_2; have HL126_2 := am_ (show Kd.V (Kd.int .i64) 3 _ w.heap.size _ _ ((rd_T54 t122 0).f2) from Kd.V_mk ul126_2 ge126_2); clear hva_ hvn_ hvc_ ge126_2 ul126_2 hcc126 hce126; have qi126 : (0 < t122.length) = True := eq_true (by omega); (try rw [show ((0 : Int)).toNat = 0 from rfl] at hx126_0); (try rw [show 0 * 3 = 0 from rfl] at hx126_0); (try rw [Addr.add_zero'] at hx126_0); (try rw [show ((0 : Int)).toNat = 0 from rfl] at hx126_1); (try rw [show 0 * 3 = 0 from rfl] at hx126_1); (try rw [Addr.add_zero'] at hx126_1); (try rw [show ((0 : Int)).toNat = 0 from rfl] at hx126_2); (try rw [show 0 * 3 = 0 from rfl] at hx126_2); (try rw [Addr.add_zero'] at hx126_2); have HR126_2 := am_ hi126_2; have HC126_2 := am_ hl126_2; clear hi126_2 hl126_2; replace p126 := eq_true p126; replace q126 := eq_true q126))
    go_ret
    exact ⟨by first | rfl | (simp [errW_none, errW_some] <;> rfl) | (simp [*, errW_none, errW_some] <;> rfl), bh HB⟩
   rw [if_neg c7] at H
   have c7b0 : ((t122.length : Int) == 1) = false := beq_eq_false_iff_ne.mpr c7
   have c7b1 : ((t122.length : Int) != 1) = true := bne_iff_ne.mpr c7
   obtain rfl := Option.some.inj H
   go_enter Try.func16, Try.ntmps16
   go_wp2_with (first | ((with_reducible refine gate_callee (f := 19) rfl ?_); refine goesL_ (some 3) rfl rfl Try.func19 (by kernel_rfl) rfl #[.slice none 0 0, .int .i64 2, .int .i64 1] rfl (by (try simp only [List.map_toArray, List.map_cons, List.map_nil]); first | done | rfl | (simp only [List.length_drop, List.length_take]; rfl)) ?_; (refine (order_Note.calls (fun k_ => False) _ _ ([] : List (S54)) 2 1 t116 _ ?side1 A1.out).mono ?_); (case side1 => exact Kd.V_nil _ _ _ _ _); rintro e w57 ⟨v117, rfl, ho0, hb⟩; refine ⟨_, rfl, ?_⟩; have HO118 := am_ (Kd.V_lower (Kd.V_mono (ok' := fun k_ => True) ho0 (fun k_ hk_ => trivial)) (below_size (bh HB))); replace HB := tHb HB hb; (try clear hb); (try clear hb2); (try clear hk); (try clear hi); (try clear ho0); obtain ⟨Ao58, co58, eo58⟩ := Kd.V_slice HO118.out; subst eo58) | ((with_reducible refine gate_callee (f := 19) rfl ?_); refine goesL_ (some 4) rfl rfl Try.func19 (by kernel_rfl) rfl #[.slice Ao58 t116.length co58, .int .i64 2, .int .i64 3] rfl (by (try simp only [List.map_toArray, List.map_cons, List.map_nil]); first | done | rfl | (simp only [List.length_drop, List.length_take]; rfl)) ?_; (with_reducible refine (order_Note.calls (fun k_ => True) _ _ t116 2 3 t119 _ ?side1 A2.out).mono ?_); (case side1 => exact HO118.out); rintro e w59 ⟨v120, rfl, ho0, hb⟩; refine ⟨_, rfl, ?_⟩; replace HO118 := tVb HO118 hb; have HO121 := am_ (Kd.V_lower (Kd.V_mono (ok' := fun k_ => True) ho0 (fun k_ hk_ => trivial)) (below_size (bh HB))); replace HB := tHb HB hb; (try clear hb); (try clear hb2); (try clear hk); (try clear hi); (try clear ho0); obtain ⟨Ao60, co60, eo60⟩ := Kd.V_slice HO121.out; subst eo60) | ((with_reducible refine gate_callee (f := 19) rfl ?_); refine goesL_ (some 6) rfl rfl Try.func19 (by kernel_rfl) rfl #[.slice Ao60 t119.length co60, .int .i64 2, .int .i64 2] rfl (by (try simp only [List.map_toArray, List.map_cons, List.map_nil]); first | done | rfl | (simp only [List.length_drop, List.length_take]; rfl)) ?_; (with_reducible refine (order_Note.calls (fun k_ => True) _ _ t119 2 2 t122 _ ?side1 A3.out).mono ?_); (case side1 => exact HO121.out); rintro e w61 ⟨v123, rfl, ho0, hb⟩; refine ⟨_, rfl, ?_⟩; replace HO118 := tVb HO118 hb; replace HO121 := tVb HO121 hb; have HO124 := am_ (Kd.V_lower (Kd.V_mono (ok' := fun k_ => True) ho0 (fun k_ hk_ => trivial)) (below_size (bh HB))); replace HB := tHb HB hb; (try clear hb); (try clear hb2); (try clear hk); (try clear hi); (try clear ho0); have p125 : 0 ≤ (0 : Int) := (by omega); have q125 : 0 < (t119.length : Int) := of_decide_eq_true ‹_›; obtain ⟨ad125, A125_2, c125_2, e125, hx125_0, hx125_1, hx125_2, hl125_2, hi125_2⟩ := at_T54 (Kd.V_reads' HO121.out).2.2 0 p125 q125; cases e125; obtain ⟨ce125, hce125, hMe125, hcc125⟩ := Kd.V_get HO121.out z54 0 p125 (by first | exact q125 | exact of_decide_eq_true ‹_› | (have e_ := (Kd.V_reads' HO121.out).1; omega)); obtain ⟨ua125_2, uc125_2, rfl, ul125_2, ge125_2⟩ := k54_openF hMe125; have hv125_2 := hcc125 2 _ rfl; rw [add_field _ _ 2 (by omega)] at hv125_2; replace hv125_2 := Option.some.inj (hv125_2.symm.trans hx125_2); injection hv125_2 with hva_ hvn_ hvc_; rw [hva_] at ge125_2; rw [hvc_] at ul125_2; have HL125_2 := am_ (show Kd.V (Kd.int .i64) 3 _ w.heap.size _ _ ((rd_T54 t119 0).f2) from Kd.V_mk ul125_2 ge125_2); clear hva_ hvn_ hvc_ ge125_2 ul125_2 hcc125 hce125; have qi125 : (0 < t119.length) = True := eq_true (by omega); (try rw [show ((0 : Int)).toNat = 0 from rfl] at hx125_0); (try rw [show 0 * 3 = 0 from rfl] at hx125_0); (try rw [Addr.add_zero'] at hx125_0); (try rw [show ((0 : Int)).toNat = 0 from rfl] at hx125_1); (try rw [show 0 * 3 = 0 from rfl] at hx125_1); (try rw [Addr.add_zero'] at hx125_1); (try rw [show ((0 : Int)).toNat = 0 from rfl] at hx125_2); (try rw [show 0 * 3 = 0 from rfl] at hx125_2); (try rw [Addr.add_zero'] at hx125_2); have HR125_2 := am_ hi125_2; have HC125_2 := am_ hl125_2; clear hi125_2 hl125_2; replace p125 := eq_true p125; replace q125 := eq_true q125; obtain ⟨Ao62, co62, eo62⟩ := Kd.V_slice HO124.out; subst eo62))
   go_ret
   exact ⟨by first | rfl | (simp [errW_none, errW_some] <;> rfl) | (simp [*, errW_none, errW_some] <;> rfl), bh HB⟩
  rw [if_neg c6] at H
  have c6b0 : (((rd_T54 t119 0).f1) == 1) = false := beq_eq_false_iff_ne.mpr c6
  have c6b1 : (((rd_T54 t119 0).f1) != 1) = true := bne_iff_ne.mpr c6
  obtain rfl := Option.some.inj H
  go_enter Try.func16, Try.ntmps16
  go_wp2_with (first | ((with_reducible refine gate_callee (f := 19) rfl ?_); refine goesL_ (some 3) rfl rfl Try.func19 (by kernel_rfl) rfl #[.slice none 0 0, .int .i64 2, .int .i64 1] rfl (by (try simp only [List.map_toArray, List.map_cons, List.map_nil]); first | done | rfl | (simp only [List.length_drop, List.length_take]; rfl)) ?_; (refine (order_Note.calls (fun k_ => False) _ _ ([] : List (S54)) 2 1 t116 _ ?side1 A1.out).mono ?_); (case side1 => exact Kd.V_nil _ _ _ _ _); rintro e w63 ⟨v117, rfl, ho0, hb⟩; refine ⟨_, rfl, ?_⟩; have HO118 := am_ (Kd.V_lower (Kd.V_mono (ok' := fun k_ => True) ho0 (fun k_ hk_ => trivial)) (below_size (bh HB))); replace HB := tHb HB hb; (try clear hb); (try clear hb2); (try clear hk); (try clear hi); (try clear ho0); obtain ⟨Ao64, co64, eo64⟩ := Kd.V_slice HO118.out; subst eo64) | ((with_reducible refine gate_callee (f := 19) rfl ?_); refine goesL_ (some 4) rfl rfl Try.func19 (by kernel_rfl) rfl #[.slice Ao64 t116.length co64, .int .i64 2, .int .i64 3] rfl (by (try simp only [List.map_toArray, List.map_cons, List.map_nil]); first | done | rfl | (simp only [List.length_drop, List.length_take]; rfl)) ?_; (with_reducible refine (order_Note.calls (fun k_ => True) _ _ t116 2 3 t119 _ ?side1 A2.out).mono ?_); (case side1 => exact HO118.out); rintro e w65 ⟨v120, rfl, ho0, hb⟩; refine ⟨_, rfl, ?_⟩; replace HO118 := tVb HO118 hb; have HO121 := am_ (Kd.V_lower (Kd.V_mono (ok' := fun k_ => True) ho0 (fun k_ hk_ => trivial)) (below_size (bh HB))); replace HB := tHb HB hb; (try clear hb); (try clear hb2); (try clear hk); (try clear hi); (try clear ho0); obtain ⟨Ao66, co66, eo66⟩ := Kd.V_slice HO121.out; subst eo66) | ((with_reducible refine gate_callee (f := 19) rfl ?_); refine goesL_ (some 6) rfl rfl Try.func19 (by kernel_rfl) rfl #[.slice Ao66 t119.length co66, .int .i64 2, .int .i64 2] rfl (by (try simp only [List.map_toArray, List.map_cons, List.map_nil]); first | done | rfl | (simp only [List.length_drop, List.length_take]; rfl)) ?_; (with_reducible refine (order_Note.calls (fun k_ => True) _ _ t119 2 2 t122 _ ?side1 A3.out).mono ?_); (case side1 => exact HO121.out); rintro e w67 ⟨v123, rfl, ho0, hb⟩; refine ⟨_, rfl, ?_⟩; replace HO118 := tVb HO118 hb; replace HO121 := tVb HO121 hb; have HO124 := am_ (Kd.V_lower (Kd.V_mono (ok' := fun k_ => True) ho0 (fun k_ hk_ => trivial)) (below_size (bh HB))); replace HB := tHb HB hb; (try clear hb); (try clear hb2); (try clear hk); (try clear hi); (try clear ho0); have p125 : 0 ≤ (0 : Int) := (by omega); have q125 : 0 < (t119.length : Int) := of_decide_eq_true ‹_›; obtain ⟨ad125, A125_2, c125_2, e125, hx125_0, hx125_1, hx125_2, hl125_2, hi125_2⟩ := at_T54 (Kd.V_reads' HO121.out).2.2 0 p125 q125; cases e125; obtain ⟨ce125, hce125, hMe125, hcc125⟩ := Kd.V_get HO121.out z54 0 p125 (by first | exact q125 | exact of_decide_eq_true ‹_› | (have e_ := (Kd.V_reads' HO121.out).1; omega)); obtain ⟨ua125_2, uc125_2, rfl, ul125_2, ge125_2⟩ := k54_openF hMe125; have hv125_2 := hcc125 2 _ rfl; rw [add_field _ _ 2 (by omega)] at hv125_2; replace hv125_2 := Option.some.inj (hv125_2.symm.trans hx125_2); injection hv125_2 with hva_ hvn_ hvc_; rw [hva_] at ge125_2; rw [hvc_] at ul125_2; have HL125_2 := am_ (show Kd.V (Kd.int .i64) 3 _ w.heap.size _ _ ((rd_T54 t119 0).f2) from Kd.V_mk ul125_2 ge125_2); clear hva_ hvn_ hvc_ ge125_2 ul125_2 hcc125 hce125; have qi125 : (0 < t119.length) = True := eq_true (by omega); (try rw [show ((0 : Int)).toNat = 0 from rfl] at hx125_0); (try rw [show 0 * 3 = 0 from rfl] at hx125_0); (try rw [Addr.add_zero'] at hx125_0); (try rw [show ((0 : Int)).toNat = 0 from rfl] at hx125_1); (try rw [show 0 * 3 = 0 from rfl] at hx125_1); (try rw [Addr.add_zero'] at hx125_1); (try rw [show ((0 : Int)).toNat = 0 from rfl] at hx125_2); (try rw [show 0 * 3 = 0 from rfl] at hx125_2); (try rw [Addr.add_zero'] at hx125_2); have HR125_2 := am_ hi125_2; have HC125_2 := am_ hl125_2; clear hi125_2 hl125_2; replace p125 := eq_true p125; replace q125 := eq_true q125))
  go_ret
  exact ⟨by first | rfl | (simp [errW_none, errW_some] <;> rfl) | (simp [*, errW_none, errW_some] <;> rfl), bh HB⟩
 rw [if_neg c4] at H
 have c4b0 : ((t119.length : Int) == 1) = false := beq_eq_false_iff_ne.mpr c4
 have c4b1 : ((t119.length : Int) != 1) = true := bne_iff_ne.mpr c4
 obtain rfl := Option.some.inj H
 go_enter Try.func16, Try.ntmps16
 go_wp2_with (first | ((with_reducible refine gate_callee (f := 19) rfl ?_); refine goesL_ (some 3) rfl rfl Try.func19 (by kernel_rfl) rfl #[.slice none 0 0, .int .i64 2, .int .i64 1] rfl (by (try simp only [List.map_toArray, List.map_cons, List.map_nil]); first | done | rfl | (simp only [List.length_drop, List.length_take]; rfl)) ?_; (refine (order_Note.calls (fun k_ => False) _ _ ([] : List (S54)) 2 1 t116 _ ?side1 A1.out).mono ?_); (case side1 => exact Kd.V_nil _ _ _ _ _); rintro e w68 ⟨v117, rfl, ho0, hb⟩; refine ⟨_, rfl, ?_⟩; have HO118 := am_ (Kd.V_lower (Kd.V_mono (ok' := fun k_ => True) ho0 (fun k_ hk_ => trivial)) (below_size (bh HB))); replace HB := tHb HB hb; (try clear hb); (try clear hb2); (try clear hk); (try clear hi); (try clear ho0); obtain ⟨Ao69, co69, eo69⟩ := Kd.V_slice HO118.out; subst eo69) | ((with_reducible refine gate_callee (f := 19) rfl ?_); refine goesL_ (some 4) rfl rfl Try.func19 (by kernel_rfl) rfl #[.slice Ao69 t116.length co69, .int .i64 2, .int .i64 3] rfl (by (try simp only [List.map_toArray, List.map_cons, List.map_nil]); first | done | rfl | (simp only [List.length_drop, List.length_take]; rfl)) ?_; (with_reducible refine (order_Note.calls (fun k_ => True) _ _ t116 2 3 t119 _ ?side1 A2.out).mono ?_); (case side1 => exact HO118.out); rintro e w70 ⟨v120, rfl, ho0, hb⟩; refine ⟨_, rfl, ?_⟩; replace HO118 := tVb HO118 hb; have HO121 := am_ (Kd.V_lower (Kd.V_mono (ok' := fun k_ => True) ho0 (fun k_ hk_ => trivial)) (below_size (bh HB))); replace HB := tHb HB hb; (try clear hb); (try clear hb2); (try clear hk); (try clear hi); (try clear ho0); obtain ⟨Ao71, co71, eo71⟩ := Kd.V_slice HO121.out; subst eo71) | ((with_reducible refine gate_callee (f := 19) rfl ?_); refine goesL_ (some 6) rfl rfl Try.func19 (by kernel_rfl) rfl #[.slice Ao71 t119.length co71, .int .i64 2, .int .i64 2] rfl (by (try simp only [List.map_toArray, List.map_cons, List.map_nil]); first | done | rfl | (simp only [List.length_drop, List.length_take]; rfl)) ?_; (with_reducible refine (order_Note.calls (fun k_ => True) _ _ t119 2 2 t122 _ ?side1 A3.out).mono ?_); (case side1 => exact HO121.out); rintro e w72 ⟨v123, rfl, ho0, hb⟩; refine ⟨_, rfl, ?_⟩; replace HO118 := tVb HO118 hb; replace HO121 := tVb HO121 hb; have HO124 := am_ (Kd.V_lower (Kd.V_mono (ok' := fun k_ => True) ho0 (fun k_ hk_ => trivial)) (below_size (bh HB))); replace HB := tHb HB hb; (try clear hb); (try clear hb2); (try clear hk); (try clear hi); (try clear ho0)))
 go_ret
 exact ⟨by first | rfl | (simp [errW_none, errW_some] <;> rfl) | (simp [*, errW_none, errW_some] <;> rfl), bh HB⟩

mutual
def selvedgelaw14_small.l0 : Nat → Int → Int → Int → List (S37) → Option (Bool)
 | 0, _, _, _, _ => none
 | k + 1, x3, x132000, x132001, x132002 => if x3 < (x132002.length : Int) then (if 0 ≤ x3 then (if ((rd_T37 x132002 x3).f1.f1) > 60 then (selvedgelaw14_small.j1 k x3 true x132000 x132001 x132002) else (selvedgelaw14_small.j1 k x3 (decide (((rd_T37 x132002 x3).f1.f1) < 0)) x132000 x132001 x132002)) else (none)) else (some (decide ((x132002.length : Int) ≤ 60)))
def selvedgelaw14_small.j1 : Nat → Int → Bool → Int → Int → List (S37) → Option (Bool)
 | 0, _, _, _, _, _ => none
 | k + 1, x3, x29, x132000, x132001, x132002 => if x29 = true then (some false) else (selvedgelaw14_small.l1 k x3 0 x132000 x132001 x132002)
def selvedgelaw14_small.l1 : Nat → Int → Int → Int → Int → List (S37) → Option (Bool)
 | 0, _, _, _, _, _ => none
 | k + 1, x3, x4, x132000, x132001, x132002 => if x4 < x3 then (if 0 ≤ x3 then (if x3 < (x132002.length : Int) then (if 0 ≤ x4 then (if x4 < (x132002.length : Int) then (if ((rd_T37 x132002 x3).f0).toList = ((rd_T37 x132002 x4).f0).toList then (some false) else (selvedgelaw14_small.l1 k x3 (wrap64 (x4 + 1)) x132000 x132001 x132002)) else (none)) else (none)) else (none)) else (none)) else (selvedgelaw14_small.l0 k (wrap64 (x3 + 1)) x132000 x132001 x132002)
end
def selvedgelaw14_small.f (k : Nat) (a0_0 : Int) (a0_1 : Int) (l0_2 : List (S37)) : Option (Bool) := selvedgelaw14_small.l0 k 0 a0_0 a0_1 l0_2
set_option maxHeartbeats 8000000 in
set_option maxRecDepth 100000 in
theorem selvedgelaw14_small.calls (k : Nat) (a0_0 : Int) (a0_1 : Int) (A0_2 : Option Addr) (c0_2 : Nat) (l0_2 : List (S37)) (r : Bool) (w : World) (hr0_2 : Kd.C k37 w A0_2 l0_2.length l0_2) (hc0_2 : l0_2.length ≤ c0_2) (h : selvedgelaw14_small.f k a0_0 a0_1 l0_2 = some r) :
  Calls Try.prog 25 #[.agg #[.int .i64 a0_0, .int .i64 a0_1, .slice A0_2 l0_2.length c0_2]] w fun e w' => e = .returned (.bool r) ∧ Below w.heap.size w w' := by
 have hu24 := Try.underlying24
 have HR0_2 := am_ hr0_2
 have HC0_2 := am_ hc0_2
 clear hr0_2 hc0_2
 have HB := am_ (Below.refl w.heap.size w)
 have H : (selvedgelaw14_small.l0 k 0 a0_0 a0_1 l0_2) = some r := h
 clear h
 have H' := am_ H
 clear H
 go_enter Try.func25, Try.ntmps25
 go_wp2_with (first | ((with_reducible refine gate_dst (N := 1) rfl ?_); refine box_event ?hg (N := 1) ?hd (cs := #[.int .i64 a0_0, .int .i64 a0_1, .slice A0_2 l0_2.length c0_2]) (t := 24) ?hr ?_; (case hd => rfl); (case hg => rfl); (case hr => first | (go_simp; done) | (go_simp; rfl)); intro gb131 hg w2 hbox hb; have BK131 := am_ hbox; have GW131 := tG HB hg; have GE131 := tG HB hg; replace HB := tHb HB hb; clear hb hbox hg))
 (try simp only [Act.put, List.setIfInBounds_toArray, List.set_cons_zero, List.set_cons_succ])
 repeat (go_quiet (first | ((with_reducible refine gate_dst (N := 1) rfl ?_); refine box_event ?hg (N := 1) ?hd (cs := #[.int .i64 a0_0, .int .i64 a0_1, .slice A0_2 l0_2.length c0_2]) (t := 24) ?hr ?_; (case hd => rfl); (case hg => rfl); (case hr => first | (go_simp; done) | (go_simp; rfl)); intro gb131 hg w2 hbox hb; have BK131 := am_ hbox; have GW131 := tG HB hg; have GE131 := tG HB hg; replace HB := tHb HB hb; clear hb hbox hg)); try go_wp2_with (first | ((with_reducible refine gate_dst (N := 1) rfl ?_); refine box_event ?hg (N := 1) ?hd (cs := #[.int .i64 a0_0, .int .i64 a0_1, .slice A0_2 l0_2.length c0_2]) (t := 24) ?hr ?_; (case hd => rfl); (case hg => rfl); (case hr => first | (go_simp; done) | (go_simp; rfl)); intro gb131 hg w2 hbox hb; have BK131 := am_ hbox; have GW131 := tG HB hg; have GE131 := tG HB hg; replace HB := tHb HB hb; clear hb hbox hg)))
 go_loopg [3] k (fun kq v3 w' => ∃ (x3_1 : Int), v3 = .int .i64 x3_1 ∧ Asc (selvedgelaw14_small.l0 kq x3_1 a0_0 a0_1 l0_2 = some r) ∧ Asc (kq ≤ k) ∧ Asc (w'.heap[gb131]? = some (.cells #[.int .i64 a0_0, .int .i64 a0_1, (.slice A0_2 l0_2.length c0_2)] 24 (0, 0))) ∧ Asc (Below w.heap.size w w'))
 case atStart => exact ⟨(0), (by first | rfl | (simp; done) | (simp [*]; done)), H', ⟨Nat.le_refl _⟩, ⟨gB BK131⟩, ⟨bh HB⟩⟩
 case round =>
  clear H'
  obtain ⟨x3_1, rfl, HA, HK1, BK131, HB⟩ := hrel
  cases gk with
  | zero => exact absurd HA.out (by simp [selvedgelaw14_small.l0])
  | succ k1 =>
   have H := HA.out
   clear HA
   simp only [selvedgelaw14_small.l0] at H
   by_cases c3 : x3_1 < (l0_2.length : Int)
   ·
    rw [if_pos c3] at H
    have c3b0 : decide (x3_1 < (l0_2.length : Int)) = true := decide_eq_true c3
    clear c3
    have HC4 := am_ H
    clear H
    obtain ⟨hcz5_0, hcz5_1, hcz5_2, hfz5_0, hfz5_1, hfz5_2⟩ := bx3 BK131
    go_upto_region 4 with (fail)
    repeat (go_quiet (fail); go_upto_region 4 with (fail))
    go_cut [29] (fun v29 wc => ∃ (kq : Nat) (x29_3 : Bool), v29 = .bool x29_3 ∧ Asc (selvedgelaw14_small.j1 kq x3_1 x29_3 a0_0 a0_1 l0_2 = some r) ∧ Asc (kq ≤ k1) ∧ Asc (wc.heap[gb131]? = some (.cells #[.int .i64 a0_0, .int .i64 a0_1, (.slice A0_2 l0_2.length c0_2)] 24 (0, 0))) ∧ Asc (Below w.heap.size w wc))
    case first =>
     have H := HC4.out
     clear HC4
     revert H
     refine gi (fun c6b0 H => ?_)
     (first | rw [c6b0] | (simp only [i64_w, i32_w]; rw [c6b0]) | skip)
     by_cases c7 : ((rd_T37 l0_2 x3_1).f1.f1) > 60
     ·
      rw [if_pos c7] at H
      have c7b0 : decide (60 < ((rd_T37 l0_2 x3_1).f1.f1)) = true := decide_eq_true c7
      clear c7
      have H' := am_ H
      clear H
      obtain ⟨hcz8_0, hcz8_1, hcz8_2, hfz8_0, hfz8_1, hfz8_2⟩ := bx3 BK131
      have p132 : 0 ≤ (x3_1 : Int) := of_decide_eq_true ‹_›
      have q132 : x3_1 < (l0_2.length : Int) := of_decide_eq_true ‹_›
      obtain ⟨ad132, A132_3, c132_3, A132_4, c132_4, e132, hx132_0, hx132_1, hx132_2, hx132_3, hx132_4, hx132_5, hx132_6, hl132_3, hi132_3, hl132_4, hi132_4⟩ := at_T37 HR0_2.out x3_1 p132 q132
      cases e132
      replace hx132_0 := ce HB hx132_0
      replace hx132_1 := ce HB hx132_1
      replace hx132_2 := ce HB hx132_2
      replace hx132_3 := ce HB hx132_3
      replace hx132_4 := ce HB hx132_4
      replace hx132_5 := ce HB hx132_5
      replace hx132_6 := ce HB hx132_6
      have HR132_3 := am_ hi132_3
      have HC132_3 := am_ hl132_3
      clear hi132_3 hl132_3
      have HR132_4 := am_ hi132_4
      have HC132_4 := am_ hl132_4
      clear hi132_4 hl132_4
      replace p132 := eq_true p132
      replace q132 := eq_true q132
      go_wp2
      repeat (go_quiet (fail); try go_wp2)
      go_meet
      case rel => exact ⟨_, (true), (by first | rfl | (simp; done) | (simp [*]; done)), H', ⟨by have := HK1.out; first | omega | exact Nat.le_refl _⟩, ⟨gB BK131⟩, ⟨bh HB⟩⟩
     rw [if_neg c7] at H
     have c7b0 : decide (60 < ((rd_T37 l0_2 x3_1).f1.f1)) = false := decide_eq_false c7
     clear c7
     have H' := am_ H
     clear H
     obtain ⟨hcz9_0, hcz9_1, hcz9_2, hfz9_0, hfz9_1, hfz9_2⟩ := bx3 BK131
     have p132 : 0 ≤ (x3_1 : Int) := of_decide_eq_true ‹_›
     have q132 : x3_1 < (l0_2.length : Int) := of_decide_eq_true ‹_›
     obtain ⟨ad132, A132_3, c132_3, A132_4, c132_4, e132, hx132_0, hx132_1, hx132_2, hx132_3, hx132_4, hx132_5, hx132_6, hl132_3, hi132_3, hl132_4, hi132_4⟩ := at_T37 HR0_2.out x3_1 p132 q132
     cases e132
     replace hx132_0 := ce HB hx132_0
     replace hx132_1 := ce HB hx132_1
     replace hx132_2 := ce HB hx132_2
     replace hx132_3 := ce HB hx132_3
     replace hx132_4 := ce HB hx132_4
     replace hx132_5 := ce HB hx132_5
     replace hx132_6 := ce HB hx132_6
     have HR132_3 := am_ hi132_3
     have HC132_3 := am_ hl132_3
     clear hi132_3 hl132_3
     have HR132_4 := am_ hi132_4
     have HC132_4 := am_ hl132_4
     clear hi132_4 hl132_4
     replace p132 := eq_true p132
     replace q132 := eq_true q132
     have p133 : 0 ≤ (x3_1 : Int) := of_decide_eq_true ‹_›
     have q133 : x3_1 < (l0_2.length : Int) := of_decide_eq_true ‹_›
     obtain ⟨ad133, A133_3, c133_3, A133_4, c133_4, e133, hx133_0, hx133_1, hx133_2, hx133_3, hx133_4, hx133_5, hx133_6, hl133_3, hi133_3, hl133_4, hi133_4⟩ := at_T37 HR0_2.out x3_1 p133 q133
     obtain rfl : ad132 = ad133 := (by injection e133)
     replace hx133_0 := ce HB hx133_0
     replace hx133_1 := ce HB hx133_1
     replace hx133_2 := ce HB hx133_2
     replace hx133_3 := ce HB hx133_3
     replace hx133_4 := ce HB hx133_4
     replace hx133_5 := ce HB hx133_5
     replace hx133_6 := ce HB hx133_6
     have HR133_3 := am_ hi133_3
     have HC133_3 := am_ hl133_3
     clear hi133_3 hl133_3
     have HR133_4 := am_ hi133_4
     have HC133_4 := am_ hl133_4
     clear hi133_4 hl133_4
     replace p133 := eq_true p133
     replace q133 := eq_true q133
     have ea_ := Option.some.inj (hx132_3.symm.trans hx133_3)
     injection ea_ with ea_ en_ ec_
     subst ea_
     subst ec_
     clear en_
     have ea_ := Option.some.inj (hx132_4.symm.trans hx133_4)
     injection ea_ with ea_ en_ ec_
     subst ea_
     subst ec_
     clear en_
     go_wp2
     repeat (go_quiet (fail); try go_wp2)
     go_meet
     case rel => exact ⟨_, (decide (((rd_T37 l0_2 x3_1).f1.f1) < 0)), (by first | rfl | (simp; done) | (simp [*]; done)), H', ⟨by have := HK1.out; first | omega | exact Nat.le_refl _⟩, ⟨gB BK131⟩, ⟨bh HB⟩⟩
    case rest =>
     clear HC4
     try clear c3b0 hcz5_0 hcz5_1 hcz5_2 hfz5_0 hfz5_1 hfz5_2
     obtain ⟨kq, x29_3, rfl, HA, HJ3, BK131, HB⟩ := hcut
     cases kq with
     | zero => exact absurd HA.out (by simp [selvedgelaw14_small.j1])
     | succ kj3 =>
      have H := HA.out
      clear HA
      simp only [selvedgelaw14_small.j1] at H
      by_cases c10 : x29_3 = true
      ·
       subst c10
       have H1 : (some false) = some r := by rw [if_pos rfl] at H; exact H
       clear H
       have H := H1
       clear H1
       obtain rfl := Option.some.inj H
       go_wp2
       repeat (go_quiet (fail); try go_wp2)
       go_ret
       exact ⟨by first | rfl | (simp [errW_none, errW_some] <;> rfl) | (simp [*, errW_none, errW_some] <;> rfl), bh HB⟩
      replace c10 := Bool.eq_false_iff.mpr c10
      subst c10
      have H1 : (selvedgelaw14_small.l1 kj3 x3_1 0 a0_0 a0_1 l0_2) = some r := by rw [if_neg (show ¬ (false = true) by decide)] at H; exact H
      clear H
      have H := H1
      clear H1
      have H' := am_ H
      clear H
      go_wp2
      repeat (go_quiet (fail); try go_wp2)
      go_loopg [4] kj3 (fun kq v4 w' => ∃ (x4_3 : Int), v4 = .int .i64 x4_3 ∧ Asc (selvedgelaw14_small.l1 kq x3_1 x4_3 a0_0 a0_1 l0_2 = some r) ∧ Asc (kq ≤ kj3) ∧ Asc (w'.heap[gb131]? = some (.cells #[.int .i64 a0_0, .int .i64 a0_1, (.slice A0_2 l0_2.length c0_2)] 24 (0, 0))) ∧ Asc (Below w.heap.size w w'))
      case atStart => exact ⟨(0), (by first | rfl | (simp; done) | (simp [*]; done)), H', ⟨Nat.le_refl _⟩, ⟨gB BK131⟩, ⟨bh HB⟩⟩
      case round =>
       clear H'
       try clear c10
       obtain ⟨x4_3, rfl, HA, HK3, BK131, HB⟩ := hrel
       cases gk with
       | zero => exact absurd HA.out (by simp [selvedgelaw14_small.l1])
       | succ k3 =>
        have H := HA.out
        clear HA
        simp only [selvedgelaw14_small.l1] at H
        by_cases c11 : x4_3 < x3_1
        ·
         rw [if_pos c11] at H
         have c11b0 : decide (x4_3 < x3_1) = true := decide_eq_true c11
         clear c11
         revert H
         refine gi (fun c12b0 H => ?_)
         revert H
         refine gi (fun c13b0 H => ?_)
         revert H
         refine gi (fun c14b0 H => ?_)
         revert H
         refine gi (fun c15b0 H => ?_)
         by_cases c16 : ((rd_T37 l0_2 x3_1).f0).toList = ((rd_T37 l0_2 x4_3).f0).toList
         ·
          rw [if_pos c16] at H
          have c16b0 : (((rd_T37 l0_2 x3_1).f0).toList == ((rd_T37 l0_2 x4_3).f0).toList) = true := beq_iff_eq.mpr c16
          have c16b1 : (((rd_T37 l0_2 x3_1).f0).toList != ((rd_T37 l0_2 x4_3).f0).toList) = false := bne_eq_false_iff_eq.mpr c16
          clear c16
          obtain rfl := Option.some.inj H
          obtain ⟨hcz17_0, hcz17_1, hcz17_2, hfz17_0, hfz17_1, hfz17_2⟩ := bx3 BK131
          have p134 : 0 ≤ (x3_1 : Int) := of_decide_eq_true ‹_›
          have q134 : x3_1 < (l0_2.length : Int) := of_decide_eq_true ‹_›
          obtain ⟨ad134, A134_3, c134_3, A134_4, c134_4, e134, hx134_0, hx134_1, hx134_2, hx134_3, hx134_4, hx134_5, hx134_6, hl134_3, hi134_3, hl134_4, hi134_4⟩ := at_T37 HR0_2.out x3_1 p134 q134
          cases e134
          replace hx134_0 := ce HB hx134_0
          replace hx134_1 := ce HB hx134_1
          replace hx134_2 := ce HB hx134_2
          replace hx134_3 := ce HB hx134_3
          replace hx134_4 := ce HB hx134_4
          replace hx134_5 := ce HB hx134_5
          replace hx134_6 := ce HB hx134_6
          have HR134_3 := am_ hi134_3
          have HC134_3 := am_ hl134_3
          clear hi134_3 hl134_3
          have HR134_4 := am_ hi134_4
          have HC134_4 := am_ hl134_4
          clear hi134_4 hl134_4
          replace p134 := eq_true p134
          replace q134 := eq_true q134
          have p135 : 0 ≤ (x4_3 : Int) := of_decide_eq_true ‹_›
          have q135 : x4_3 < (l0_2.length : Int) := of_decide_eq_true ‹_›
          obtain ⟨ad135, A135_3, c135_3, A135_4, c135_4, e135, hx135_0, hx135_1, hx135_2, hx135_3, hx135_4, hx135_5, hx135_6, hl135_3, hi135_3, hl135_4, hi135_4⟩ := at_T37 HR0_2.out x4_3 p135 q135
          obtain rfl : ad134 = ad135 := (by injection e135)
          replace hx135_0 := ce HB hx135_0
          replace hx135_1 := ce HB hx135_1
          replace hx135_2 := ce HB hx135_2
          replace hx135_3 := ce HB hx135_3
          replace hx135_4 := ce HB hx135_4
          replace hx135_5 := ce HB hx135_5
          replace hx135_6 := ce HB hx135_6
          have HR135_3 := am_ hi135_3
          have HC135_3 := am_ hl135_3
          clear hi135_3 hl135_3
          have HR135_4 := am_ hi135_4
          have HC135_4 := am_ hl135_4
          clear hi135_4 hl135_4
          replace p135 := eq_true p135
          replace q135 := eq_true q135
          go_wp2
          repeat (go_quiet (fail); try go_wp2)
          go_ret
          exact ⟨by first | rfl | (simp [errW_none, errW_some] <;> rfl) | (simp [*, errW_none, errW_some] <;> rfl), bh HB⟩
         rw [if_neg c16] at H
         have c16b0 : (((rd_T37 l0_2 x3_1).f0).toList == ((rd_T37 l0_2 x4_3).f0).toList) = false := beq_eq_false_iff_ne.mpr c16
         have c16b1 : (((rd_T37 l0_2 x3_1).f0).toList != ((rd_T37 l0_2 x4_3).f0).toList) = true := bne_iff_ne.mpr c16
         have H' := am_ H
         clear H
         obtain ⟨hcz18_0, hcz18_1, hcz18_2, hfz18_0, hfz18_1, hfz18_2⟩ := bx3 BK131
         have p134 : 0 ≤ (x3_1 : Int) := of_decide_eq_true ‹_›
         have q134 : x3_1 < (l0_2.length : Int) := of_decide_eq_true ‹_›
         obtain ⟨ad134, A134_3, c134_3, A134_4, c134_4, e134, hx134_0, hx134_1, hx134_2, hx134_3, hx134_4, hx134_5, hx134_6, hl134_3, hi134_3, hl134_4, hi134_4⟩ := at_T37 HR0_2.out x3_1 p134 q134
         cases e134
         replace hx134_0 := ce HB hx134_0
         replace hx134_1 := ce HB hx134_1
         replace hx134_2 := ce HB hx134_2
         replace hx134_3 := ce HB hx134_3
         replace hx134_4 := ce HB hx134_4
         replace hx134_5 := ce HB hx134_5
         replace hx134_6 := ce HB hx134_6
         have HR134_3 := am_ hi134_3
         have HC134_3 := am_ hl134_3
         clear hi134_3 hl134_3
         have HR134_4 := am_ hi134_4
         have HC134_4 := am_ hl134_4
         clear hi134_4 hl134_4
         replace p134 := eq_true p134
         replace q134 := eq_true q134
         have p135 : 0 ≤ (x4_3 : Int) := of_decide_eq_true ‹_›
         have q135 : x4_3 < (l0_2.length : Int) := of_decide_eq_true ‹_›
         obtain ⟨ad135, A135_3, c135_3, A135_4, c135_4, e135, hx135_0, hx135_1, hx135_2, hx135_3, hx135_4, hx135_5, hx135_6, hl135_3, hi135_3, hl135_4, hi135_4⟩ := at_T37 HR0_2.out x4_3 p135 q135
         obtain rfl : ad134 = ad135 := (by injection e135)
         replace hx135_0 := ce HB hx135_0
         replace hx135_1 := ce HB hx135_1
         replace hx135_2 := ce HB hx135_2
         replace hx135_3 := ce HB hx135_3
         replace hx135_4 := ce HB hx135_4
         replace hx135_5 := ce HB hx135_5
         replace hx135_6 := ce HB hx135_6
         have HR135_3 := am_ hi135_3
         have HC135_3 := am_ hl135_3
         clear hi135_3 hl135_3
         have HR135_4 := am_ hi135_4
         have HC135_4 := am_ hl135_4
         clear hi135_4 hl135_4
         replace p135 := eq_true p135
         replace q135 := eq_true q135
         go_wp2
         repeat (go_quiet (fail); try go_wp2)
         go_roundg k3
         case measure => have := HK1.out; have := HJ3.out; have := HK3.out; omega
         case rel => exact ⟨(wrap64 (x4_3 + 1)), (by first | rfl | (simp; done) | (simp [*]; done)), H', ⟨by have := HK1.out; have := HJ3.out; have := HK3.out; omega⟩, ⟨gB BK131⟩, ⟨bh HB⟩⟩
        rw [if_neg c11] at H
        have c11b0 : decide (x4_3 < x3_1) = false := decide_eq_false c11
        clear c11
        have H' := am_ H
        clear H
        go_wp2
        repeat (go_quiet (fail); try go_wp2)
        go_roundg k3
        case measure => have := HK1.out; have := HJ3.out; have := HK3.out; omega
        case rel => exact ⟨(wrap64 (x3_1 + 1)), (by first | rfl | (simp; done) | (simp [*]; done)), H', ⟨by have := HK1.out; have := HJ3.out; have := HK3.out; omega⟩, ⟨gB BK131⟩, ⟨bh HB⟩⟩
   rw [if_neg c3] at H
   have c3b0 : decide (x3_1 < (l0_2.length : Int)) = false := decide_eq_false c3
   clear c3
   obtain rfl := Option.some.inj H
   obtain ⟨hcz19_0, hcz19_1, hcz19_2, hfz19_0, hfz19_1, hfz19_2⟩ := bx3 BK131
   go_wp2
   repeat (go_quiet (fail); try go_wp2)
   go_ret
   exact ⟨by first | rfl | (simp [errW_none, errW_some] <;> rfl) | (simp [*, errW_none, errW_some] <;> rfl), bh HB⟩

def toDX (x : SE) : Si.DX := ⟨x.f0, x.f1.f1, x.f1.f3⟩
theorem pe_of {W : World} {ok : Nat → Prop} {r : Si.ER} {x : SE} (h : RelE W ok r x) : Si.PE W r (toDX x) := ⟨h.1, h.2.2.1, h.2.2.2.2.2.2.1, Si.row_str h.2.2.2.2.2.2.2.2.1⟩
theorem pes_of {W : World} {ok : Nat → Prop} : ∀ {rs : List Si.ER} {xs : List SE}, RelsE W ok rs xs → Si.PEs W rs (xs.map toDX)
 | [], [], _ => trivial
 | r :: rs, x :: xs, h => ⟨pe_of h.1, pes_of h.2⟩
 | [], x :: xs, h => h.elim
 | r :: rs, [], h => h.elim
theorem RelsE.filter {W : World} {ok : Nat → Prop} (f : Si.ER → Bool) (g : SE → Bool) (hfg : ∀ r x, RelE W ok r x → f r = g x) : ∀ {rs : List Si.ER} {xs : List SE}, RelsE W ok rs xs → RelsE W ok (rs.filter f) (xs.filter g)
 | [], [], _ => trivial
 | r :: rs, x :: xs, h => by
  rw [List.filter_cons, List.filter_cons, hfg r x h.1]
  split
  ·
   exact ⟨h.1, RelsE.filter f g hfg h.2⟩
  exact RelsE.filter f g hfg h.2
 | [], x :: xs, h => h.elim
 | r :: rs, [], h => h.elim
theorem cellsE_at : ∀ (rs : List Si.ER) (j : Nat) (r : Si.ER), rs[j]? = some r → ∀ (i : Nat) (u : Value), r.cs[i]? = some u → (Si.cellsE rs)[j * 7 + i]? = some u
 | [], j, r, h, _, _, _ => by simp at h
 | x :: xs, 0, r, h, i, u, hu => by
  have e : x = r := by simpa using h
  subst e
  have hi : i < 7 := (List.getElem?_eq_some_iff.1 hu).1
  show (x.cs ++ Si.cellsE xs)[0 * 7 + i]? = some u
  rw [Nat.zero_mul, Nat.zero_add, List.getElem?_append_left (show i < x.cs.length from hi)]
  exact hu
 | x :: xs, j + 1, r, h, i, u, hu => by
  have ih := cellsE_at xs j r (by simpa using h) i u hu
  show (x.cs ++ Si.cellsE xs)[(j + 1) * 7 + i]? = some u
  rw [List.getElem?_append_right (show x.cs.length ≤ (j + 1) * 7 + i by show 7 ≤ _; omega), show (j + 1) * 7 + i - x.cs.length = j * 7 + i by show (j + 1) * 7 + i - 7 = _; omega]
  exact ih
theorem V_relsE {W : World} {ok : Nat → Prop} {b base : Nat} {v : Value} {n : Nat} {rs : List Si.ER} {ms : List SE} (h : W.ownsRow base 37 7 v n (Si.cellsE rs)) (hn : n = ms.length) (hr : RelsE W ok rs ms) (hok : ∀ k, v.ownBlock = some k → ok k) : Kd.V k37 37 W b ok v ms := by
 subst hn
 rcases h.2 with ⟨rfl, h0⟩ | ⟨g, cap, cur, rfl, hb, hg, hnc, hcm, hcs, htake⟩
 ·
  have e : ms = [] := List.eq_nil_of_length_eq_zero h0
  subst e
  exact ⟨none, 0, rfl, Nat.le_refl _, Kd.F_nil _ _ _⟩
 refine ⟨some ⟨g, 0, none⟩, cap, rfl, hnc, fun W' hW => ?_⟩
 have hlt : g < W.heap.size := (Array.getElem?_eq_some_iff.1 hg).1
 have hg' := (hW g (hok g rfl) hlt).trans hg
 refine ⟨rfl, by unfold maxLen at hcm; omega, fun _ => ⟨_, rfl, fun j x hj => ?_⟩⟩
 have hjr : j < rs.length := by rw [hr.len]; exact (List.getElem?_eq_some_iff.1 hj).1
 obtain ⟨r, hrj⟩ : ∃ r, rs[j]? = some r := ⟨_, List.getElem?_eq_getElem hjr⟩
 obtain ⟨h1, h2, h3, h4, h5, h6, h7, h8, h9, h10, h11⟩ := hr.get j r x hrj hj
 have hat := cellsE_at rs j r hrj
 obtain ⟨yd, yau, yro, yA3, yn3, yc3, yA4, yn4, yc4, yea, yeb⟩ := r
 dsimp only at h1 h2 h3 h4 h5 h6 h7 h8 h9 h10 h11
 subst h1 h2 h3 h4 h7 h10 h11
 have e5 : (k37).sz = 7 := rfl
 refine ⟨_, rfl, k37_mk W' x h5 (h6 W' hW) h8 (h9 W' hW), fun i u hu => ?_⟩
 have hcell := hat i u hu
 rw [← htake, List.getElem?_take] at hcell
 split at hcell
 ·
  rw [e5, add_plain, cell_of_row W' g _ cur _ (0, 0) hg', ← Array.getElem?_toList]
  exact hcell
 cases hcell
theorem rdE_eq (m : List SE) (i : Nat) (h : i < m.length) : rd_T37 m (i : Int) = m[i] := by
 unfold rd_T37
 rw [Int.toNat_natCast, List.getD_eq_getElem?_getD, List.getElem?_eq_getElem h]; rfl
theorem dagRound_l (l : List SE) (hl : l.length ≤ 1073741824) (r : Int) : ∀ (n i : Nat) (acc : List SE), i + n = l.length → acc.length ≤ i → dag_Round.l0 (n + 1) r acc l (l.length : Int) (i : Int) = some (acc ++ (l.drop i).filter (fun x => x.f1.f1 == r))
 | 0, i, acc, h, ha => by
  rw [dag_Round.l0, if_neg (by omega), List.drop_eq_nil_of_le (by omega), List.filter_nil, List.append_nil]
 | n + 1, i, acc, h, ha => by
  have hi : i < l.length := by omega
  have ew : wrap64 ((i : Int) + 1) = ((i + 1 : Nat) : Int) := Si.wrap_succ (by omega)
  rw [dag_Round.l0, if_pos (by omega), if_pos (by omega), if_pos (by omega), rdE_eq l i hi, ew, List.drop_eq_getElem_cons hi, List.filter_cons]
  by_cases hq : (l[i]).f1.f1 = r
  ·
   rw [if_pos hq, if_pos (by omega), if_pos (by rw [hq]; exact beq_self_eq_true r)]
   have ih := dagRound_l l hl r n (i + 1) (acc ++ [l[i]]) (by omega) (by simp; omega)
   rw [List.append_assoc] at ih
   exact ih
  rw [if_neg hq, if_neg (by simpa using hq)]
  exact dagRound_l l hl r n (i + 1) acc (by omega) (by omega)
theorem dagRound_f (l : List SE) (hl : l.length ≤ 1073741824) (a b r : Int) : dag_Round.f (l.length + 1) a b l r = some (l.filter (fun x => x.f1.f1 == r)) := by
 have h := dagRound_l l hl r l.length 0 [] (by omega) (by simp)
 rw [List.drop_zero, List.nil_append] at h
 exact h
theorem filter_map_dx (l : List SE) (r : Int) : Si.roundX (l.map toDX) r = (l.filter (fun x => x.f1.f1 == r)).map toDX := by
 unfold Si.roundX
 rw [List.filter_map]
 rfl
theorem find_map_dx (l : List SE) (dg : ByteArray) : Si.firstX (l.map toDX) dg = (l.find? (fun x => x.f0.toList == dg.toList)).map toDX := by
 unfold Si.firstX
 rw [List.find?_map]
 rfl
def dag_Past.f (a0_0 : Int) (a0_1 : Int) (l0_2 : List SE) (a1 : ByteArray) (a2 : Int) : Option (List SE) := if Si.okX (l0_2.map toDX) = true then (Si.innX (l0_2.map toDX) a1).map (fun o => match o with
 | none => []
 | some inn => l0_2.filter (fun x => Si.selX inn a2 (toDX x))) else none
theorem dag_Past.calls (a0_0 : Int) (a0_1 : Int) (P0_2_ : Nat → Prop) (A0_2 : Option Addr) (c0_2 : Nat) (l0_2 : List (S37)) (a1 : ByteArray) (a2 : Int) (r : List (S37)) (w : World) (hs0_2 : Kd.V k37 37 w w.heap.size (fun k_ => P0_2_ k_) (.slice A0_2 l0_2.length c0_2) l0_2) (h : dag_Past.f a0_0 a0_1 l0_2 a1 a2 = some r) :
  Calls Try.prog 52 #[.agg #[.int .i64 a0_0, .int .i64 a0_1, .slice A0_2 l0_2.length c0_2], .string a1, .int .i64 a2] w fun e w' => ∃ v0_ : Value, e = .returned (v0_) ∧ Kd.V k37 37 w' w.heap.size (fun k_ => (P0_2_ k_ ∨ w.heap.size ≤ k_)) v0_ r ∧ Below w.heap.size w w' := by
 obtain ⟨_, hcl, hF⟩ := Kd.V_at hs0_2
 obtain ⟨rs, hrs, hrow⟩ := F_relsE hF
 unfold dag_Past.f at h
 split at h
 ·
  rename_i hok
  obtain ⟨o, ho, hr⟩ := Option.map_eq_some_iff.1 h
  obtain ⟨k1, k2, k3⟩ := (Si.okX_iff _).1 hok
  rw [List.length_map] at k1
  have hmem : ∀ x ∈ l0_2, x.f0.size ≤ 140737488351232 := fun x hx => (k2 _ (List.mem_map.2 ⟨x, hx, rfl⟩)).1
  have hf := first_rel (fun r : Si.ER => r.d.toList == a1.toList) (fun x : SE => x.f0.toList == a1.toList) (fun r x hr => by rw [hr.1]) rs l0_2 hrs
  have hrd : ∀ (q : Int) (w1 : World), Below w.heap.size w w1 → Calls Try.prog 70 #[.agg #[.int .i64 a0_0, .int .i64 a0_1, .slice A0_2 l0_2.length c0_2], .int .i64 q] w1 fun e w' => ∃ A' c' rs', e = .returned (.slice A' (rs' : List Si.ER).length c') ∧ Si.Rowentry w' A' rs' ∧ Si.PEs w' rs' (Si.roundX (l0_2.map toDX) q) ∧ Below w1.heap.size w1 w' := by
   intro q w1 hb
   refine (dag_Round.calls (l0_2.length + 1) a0_0 a0_1 P0_2_ A0_2 c0_2 l0_2 q _ w1 (Kd.V_mk hcl (Kd.F_below hF hb)) (dagRound_f l0_2 k1 a0_0 a0_1 q)).mono ?_
   rintro e w' ⟨v, rfl, hN, hb2⟩
   obtain ⟨A', c', rfl, hl', _⟩ := Kd.N_reads hN
   obtain ⟨rs', hrs', hrow'⟩ := F_relsE (Kd.N_F hN)
   refine ⟨A', c', rs', by rw [hrs'.len], hrow', ?_, hb2⟩
   rw [filter_map_dx]
   exact pes_of hrs'
  have hsz : ∀ x ∈ rs, x.d.size ≤ maxLen := fun x hx => by
   obtain ⟨j, hj⟩ := List.mem_iff_getElem?.1 hx
   have hjl : j < l0_2.length := by rw [← hrs.len]; exact (List.getElem?_eq_some_iff.1 hj).1
   have hx2 := hrs.get j x _ hj (List.getElem?_eq_getElem hjl)
   have := hmem _ (List.getElem_mem hjl)
   rw [hx2.1]
   unfold maxLen; omega
  unfold Si.innX at ho
  rw [find_map_dx] at ho
  cases hq : l0_2.find? (fun x => x.f0.toList == a1.toList) with
  | none =>
   rw [hq] at ho hf
   dsimp only [Option.map] at ho hf
   obtain rfl := Option.some.inj ho
   have hc := Si.Past_c A0_2 c0_2 rs a0_0 a0_1 a1 a2 [] w hrow (by rw [hrs.len]; omega) hsz (fun w1 hb h2 => by rw [hf] at h2; cases h2)
   rw [hrs.len] at hc
   refine hc.mono ?_
   rintro e w' ⟨v, rfl, hown, hb⟩
   have e0 : Si.pastR a1 [] a2 rs = [] := by unfold Si.pastR; rw [hf]; rfl
   rw [e0] at hown
   subst hr
   exact ⟨v, rfl, V_relsE hown rfl trivial (fun k hk => .inr (hown.lt k hk).1), hb⟩
  | some x =>
   rw [hq] at ho hf
   dsimp only [Option.map] at ho hf
   obtain ⟨hf1, hf2⟩ := hf
   cases hd : Si.downO (Si.roundX (l0_2.map toDX)) 70 x.f1.f1 with
   | none => rw [show (toDX x).ro = x.f1.f1 from rfl, hd] at ho; cases ho
   | some rl =>
    rw [show (toDX x).ro = x.f1.f1 from rfl, hd] at ho
    obtain rfl := Option.some.inj ho
    have hxm := List.mem_of_find?_eq_some hq
    have hc := Si.Past_c A0_2 c0_2 rs a0_0 a0_1 a1 a2 (Si.pastS x.f0 x.f1.f1 (Si.roundX (l0_2.map toDX)) rl).1 w hrow (by rw [hrs.len]; omega) hsz (fun w1 hb _ => by
     have hp := Si.past_c A0_2 c0_2 rs.length a0_0 a0_1 (Si.firstE (fun x => x.d.toList == a1.toList) rs).1 (l0_2.map toDX) w1 hok (by rw [hf2.1]; exact hmem x hxm) (fun q w2 hb2 => by rw [hrs.len]; exact hrd q w2 (hb.trans (hb2.mono hb.size))) rl (by rw [hf2.2.2.1]; exact hd)
     rw [hf2.1, hf2.2.2.1] at hp
     exact hp)
    rw [hrs.len] at hc
    refine hc.mono ?_
    rintro e w' ⟨v, rfl, hown, hb⟩
    have e0 : Si.pastR a1 (Si.pastS x.f0 x.f1.f1 (Si.roundX (l0_2.map toDX)) rl).1 a2 rs = rs.filter (Si.selE (Si.pastS x.f0 x.f1.f1 (Si.roundX (l0_2.map toDX)) rl).1 a2) := by unfold Si.pastR; rw [hf1, if_pos rfl]
    rw [e0] at hown
    dsimp only at hr
    subst hr
    have hfil := RelsE.filter (Si.selE (Si.pastS x.f0 x.f1.f1 (Si.roundX (l0_2.map toDX)) rl).1 a2) (fun y : SE => Si.selX (Si.pastS x.f0 x.f1.f1 (Si.roundX (l0_2.map toDX)) rl).1 a2 (toDX y)) (fun r y hr => by
     unfold Si.selE Si.selX
     rw [hr.1, hr.2.2.1]
     rfl) hrs
    refine ⟨v, rfl, V_relsE hown hfil.len (hfil.imp hb (fun k hk => .inl hk)) (fun k hk => .inr (hown.lt k hk).1), hb⟩
 cases h

def order_with.f (k : Nat) (l0 : List ByteArray) (a1 : ByteArray) : Option (List ByteArray) := if l0.length * 16 + 16 ≤ 140737488355328 then (slices_Contains_string_string.f k l0 a1).bind fun b => if b = l0.contains a1 then some (Si.withS l0 a1) else none else none
theorem order_with.calls (k : Nat) (P0_ : Nat → Prop) (A0 : Option Addr) (c0 : Nat) (l0 : List ByteArray) (a1 : ByteArray) (r : List ByteArray) (w : World) (hs0 : Kd.V Kd.string 9 w w.heap.size (fun k_ => P0_ k_) (.slice A0 l0.length c0) l0) (h : order_with.f k l0 a1 = some r) :
  Calls Try.prog 54 #[.slice A0 l0.length c0, .string a1] w fun e w' => ∃ v0_ : Value, e = .returned (v0_) ∧ Kd.V Kd.string 9 w' w.heap.size (fun k_ => (P0_ k_ ∨ w.heap.size ≤ k_)) v0_ r ∧ Below w.heap.size w w' := by
 unfold order_with.f at h
 split at h
 ·
  rename_i hl
  obtain ⟨b, hb, h⟩ := Option.bind_eq_some_iff.1 h
  split at h
  ·
   rename_i he
   obtain rfl := Option.some.inj h
   subst he
   obtain ⟨_, hcl, _⟩ := Kd.V_at hs0
   exact Si.with_v P0_ A0 c0 l0 a1 w hs0 hl (fun w1 hC => (slices_Contains_string_string.calls k A0 c0 l0 a1 _ w1 hC hcl hb).mono (fun e w_ hq => ⟨hq.1, hq.2.below⟩))
  cases h
 cases h

end Go.Proofs.Ytcbfnmabckjijaa.POrderTurns
