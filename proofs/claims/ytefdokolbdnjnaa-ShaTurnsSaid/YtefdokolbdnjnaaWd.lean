import Derived.Test.YtefdokolbdnjnaaEq
import Derived.Test.YtefdokolbdnjnaaRw
import Derived.Test.YtefdokolbdnjnaaPShaPadsx1
import Derived.Test.YtefdokolbdnjnaaPureShaPads
/-
  selvedgelaw02.ShaWords walked: the constants. By an AI agent.
-/
namespace Go.Proofs.Ytefdokolbdnjnaa.Sa
open Go.Proofs.Ytefdokolbdnjnaa.Sm
open Go.RowKit Go.Proofs.YtefdokolbdnjnaaW.PrintWords Go.Proofs.YtefdokolbdnjnaaW.PrintLast Go.Proofs.YtefdokolbdnjnaaW.PrintMore
set_option linter.unusedVariables false
set_option linter.unusedSimpArgs false

theorem shown_c (w : World) : Calls Try.prog 24 #[] w fun e w' => e = .returned (.bool true) ∧ Below w.heap.size w w' :=
  PShaPads.selvedgelaw02_shown.calls true w Pure.shown
set_option maxHeartbeats 8000000 in
set_option maxRecDepth 100000 in
theorem lawWords_c (w : World) : Calls Try.prog 3 #[] w fun e w' => e = .returned (.bool true) ∧ Below w.heap.size w w' := by
  have HB := Aside0.mk (Below.refl w.heap.size w)
  have q1 : ∀ w : World, (Op.equalIn 10000 24 (.agg (cellsU wordsL)) (.agg (cellsU wordsL))).run Try.prog w = .ok true w := fun w => eq_row (P := Try.prog) Try.underlying24 (by kernel_rfl) (by kernel_rfl) (by kernel_rfl) wordsL (by decide) w
  have q2 : ∀ w : World, (Op.equalIn 10000 26 (.agg (cellsU firstL)) (.agg (cellsU firstL))).run Try.prog w = .ok true w := fun w => eq_row (P := Try.prog) Try.underlying26 (by kernel_rfl) (by kernel_rfl) (by kernel_rfl) firstL (by decide) w
  have m1 : Try.prog.eqGuardType Try.prog.depth 24 = false := by kernel_rfl
  have m2 : Try.prog.eqGuardType Try.prog.depth 26 = false := by kernel_rfl
  have k1 : ∀ w : World, Calls Try.prog 25 #[] w fun e w' => e = .returned (.agg (cellsU wordsL)) ∧ Below w.heap.size w w' := words_c
  have k2 : ∀ w : World, Calls Try.prog 26 #[] w fun e w' => e = .returned (.agg (cellsU wordsL)) ∧ Below w.heap.size w w' := rwords_c
  have k3 : ∀ w : World, Calls Try.prog 27 #[] w fun e w' => e = .returned (.agg (cellsU firstL)) ∧ Below w.heap.size w w' := first_c
  have k4 : ∀ w : World, Calls Try.prog 28 #[] w fun e w' => e = .returned (.agg (cellsU firstL)) ∧ Below w.heap.size w w' := rfirst_c
  replace k1 := Lib.hid k1
  replace k2 := Lib.hid k2
  replace k3 := Lib.hid k3
  replace k4 := Lib.hid k4
  generalize cellsU wordsL = WL at q1 k1 k2
  generalize cellsU firstL = FL at q2 k3 k4
  go_enter Try.func3, Try.ntmps3
  go_wp2_with (first | (go_at_call 24; (refine (shown_c _).mono ?_); rintro e w1 ⟨rfl, hb⟩; replace HB := Aside0.mk (below_step HB.out hb); clear hb) | (go_at_call 25; (refine (k1.out _).mono ?_); rintro e w2 ⟨rfl, hb⟩; replace HB := Aside0.mk (below_step HB.out hb); clear hb) | (go_at_call 26; (refine (k2.out _).mono ?_); rintro e w3 ⟨rfl, hb⟩; replace HB := Aside0.mk (below_step HB.out hb); clear hb) | (go_at_call 27; (refine (k3.out _).mono ?_); rintro e w4 ⟨rfl, hb⟩; replace HB := Aside0.mk (below_step HB.out hb); clear hb) | (go_at_call 28; (refine (k4.out _).mono ?_); rintro e w5 ⟨rfl, hb⟩; replace HB := Aside0.mk (below_step HB.out hb); clear hb))
  go_ret
  exact ⟨rfl, by repeat (first | (with_reducible first | exact HB.out | apply below_alloc | apply pw_below_drewN | apply below_drew1) | exact HB.out)⟩
end Go.Proofs.Ytefdokolbdnjnaa.Sa
