-- written by a program of this session (pp.py), out of the kit's print and this session's contracts
import Derived.Test.YtcbfnmabckjijaaPTuskStopsx0
import Derived.Test.YtcbfnmabckjijaaPTuskStopsx8
import Derived.Test.YtcbfnmabckjijaaVTuskStopsPh
namespace Go.Proofs.Ytcbfnmabckjijaa.PTuskStops
open Go.RowKit Go.Proofs.YtcbfnmabckjijaaW.PrintWords Go.Proofs.YtcbfnmabckjijaaW.PrintLast Go.Proofs.YtcbfnmabckjijaaW.PrintMore
set_option linter.unusedVariables false
set_option linter.unusedSimpArgs false

def G9.f (a0 : Int) : Option (Int) := (Fw.f a0).bind fun t330 => (if t330 = true then (some (wrap64 (a0 - (wrap64 (Int.tdiv (wrap64 (a0 - 1)) 3))))) else (some 0))
set_option maxHeartbeats 8000000 in
set_option maxRecDepth 100000 in
theorem G9.calls (a0 : Int) (r : Int) (w : World) (h : G9.f a0 = some r) :
  Calls Try.prog 128 #[.int .i64 a0] w fun e w' => e = .returned (.int .i64 r) ∧ Drawn0 w w' := by
 have H : ((Fw.f a0).bind fun t330 => (if t330 = true then (some (wrap64 (a0 - (wrap64 (Int.tdiv (wrap64 (a0 - 1)) 3))))) else (some 0))) = some r := h
 clear h
 replace H := Option.bind_eq_some_iff.mp H
 obtain ⟨t330, A20, H⟩ := H
 replace H : (if t330 = true then (some (wrap64 (a0 - (wrap64 (Int.tdiv (wrap64 (a0 - 1)) 3))))) else (some 0)) = some r := H
 have A2 := am_ A20
 clear A20
 by_cases c3 : t330 = true
 ·
  subst c3
  rw [if_pos rfl] at H
  obtain rfl := Option.some.inj H
  go_enter Try.func128, Try.ntmps128
  go_wp2_with (first | ((with_reducible refine gate_callee (f := 58) rfl ?_); refine gl_ (some 5) Try.func58 #[.int .i64 a0] ?_; (with_reducible refine (Fw.calls a0 true _ A2.out).mono ?_); rintro e w' ⟨rfl, ⟨nd, rfl⟩⟩; refine ⟨_, rfl, ?_⟩))
  go_ret
  exact ⟨fr, by repeat (first | exact Drawn0.refl _ | apply Drawn0.step)⟩
 replace c3 := Bool.eq_false_iff.mpr c3
 subst c3
 rw [if_neg (show ¬ (false = true) by decide)] at H
 obtain rfl := Option.some.inj H
 go_enter Try.func128, Try.ntmps128
 go_wp2_with (first | ((with_reducible refine gate_callee (f := 58) rfl ?_); refine gl_ (some 5) Try.func58 #[.int .i64 a0] ?_; (with_reducible refine (Fw.calls a0 false _ A2.out).mono ?_); rintro e w' ⟨rfl, ⟨nd, rfl⟩⟩; refine ⟨_, rfl, ?_⟩))
 go_ret
 exact ⟨fr, by repeat (first | exact Drawn0.refl _ | apply Drawn0.step)⟩

def G0.f (a0 : Int) : Option (Bool) := if a0 > 0 then (some ((Int.tmod a0 3) == 0)) else (some false)
set_option maxHeartbeats 8000000 in
set_option maxRecDepth 100000 in
theorem G0.calls (a0 : Int) (r : Bool) (w : World) (h : G0.f a0 = some r) :
  Calls Try.prog 129 #[.int .i64 a0] w fun e w' => e = .returned (.bool r) ∧ Drawn0 w w' := by
 have H : (if a0 > 0 then (some ((Int.tmod a0 3) == 0)) else (some false)) = some r := h
 clear h
 by_cases c2 : a0 > 0
 ·
  rw [if_pos c2] at H
  have c2b0 : decide (0 < a0) = true := decide_eq_true c2
  clear c2
  obtain rfl := Option.some.inj H
  go_enter Try.func129, Try.ntmps129
  go_wp2
  go_ret
  exact ⟨fr, by repeat (first | exact Drawn0.refl _ | apply Drawn0.step)⟩
 rw [if_neg c2] at H
 have c2b0 : decide (0 < a0) = false := decide_eq_false c2
 clear c2
 obtain rfl := Option.some.inj H
 go_enter Try.func129, Try.ntmps129
 go_wp2
 go_ret
 exact ⟨fr, by repeat (first | exact Drawn0.refl _ | apply Drawn0.step)⟩

end Go.Proofs.Ytcbfnmabckjijaa.PTuskStops
