/- Proved: the statement OrderMarksUptoSaid: the law selvedge/selvedgelaw14.OrderMarks answers true for every argument that its row allows. Conditions: those of the row, no other. Written by a program of this session (pp.py). -/
import Derived.Test.YtcbfnmabckjijaaRows
import Derived.Test.YtcbfnmabckjijaaIni
import Derived.Test.YtcbfnmabckjijaaArgOrderMarks
import Derived.Test.YtcbfnmabckjijaaPureOrderMarks
import Derived.WalkKit
import Derived.ProofKit
import Derived.OpenShut
import Derived.ShutString
import Derived.ChangeOld
import Derived.Below
import Derived.SizedLaws
import Derived.JoinedCond
import Derived.Deep.CondSized
namespace Go.Proofs.Ytcbfnmabckjijaa.orderMarks
open Go.ChangeShapes Go.WideShapes Go.ChangeAt Go.RowKit
open Go.ChangeMaps (open_string shut_string)
set_option linter.unusedVariables false
set_option linter.unusedSimpArgs false
theorem own : ownKnob Try.prog.godebug = none := by kernel_rfl
theorem laidOut : laidOutB Try.prog = true := by kernel_rfl
set_option maxRecDepth 100000 in
set_option maxHeartbeats 1000000 in
theorem contract (H : Type) (enc : TypeId × Value → H) (W : World) (base : Nat) (args : Array Value) (ds gs : List (DataW H)) (before : List MemPlace)
    (hval0 : ∀ (j : Nat) t v, Try.f4.params[j]? = some t → args[j]? = some v → Value.okWide Try.prog W .any base t v)
    (hW : DataW.Whole enc Try.prog Try.f4.params.toList Rows.orderMarksSpec.vars false W args.toList ds gs before)
    (hkk : Rows.uptoSmall H (ds ++ gs) = true) (hsz0 : (DataW.weightsEach Try.prog (Try.f4.params.toList ++ Rows.orderMarksSpec.plain.varTypes Try.prog) (ds ++ gs)).all (· ≤ reachBytes) = true) :
    Calls Try.prog 4 args W fun e W' => ∃ v, e = .returned v ∧ Rows.orderMarksSpec.post enc Try.prog Try.f4 false true false false W args v W' := by
  have hsz : (DataW.weightsEach Try.prog (Try.f4.params.toList ++ Rows.orderMarksSpec.plain.varTypes Try.prog) (ds ++ gs)).all (· ≤ reachBytes) = true := hsz0
  have hval : ∀ (j : Nat) t v, Try.f4.params[j]? = some t → args[j]? = some v → Value.okWide Try.prog W .any base t v := hval0
  have hW' := hW
  obtain ⟨p, q, hA0, hV, rfl, hfz, hnd⟩ := hW
  have hA : DataW.TrodAll enc Try.prog W 0 (fun _ => true) true Try.f4.params.toList args.toList ds p := hA0
  rw [Try.params4] at hA hval hsz
  obtain ⟨v0, vs0, d0, ds0, p0, q0, hargs, rfl, rfl, h0, r0⟩ := trodAll_cons hA
  obtain ⟨v1, vs1, d1, ds1, p1, q1, rfl, rfl, rfl, h1, r1⟩ := trodAll_cons r0
  obtain ⟨v2, vs2, d2, ds2, p2, q2, rfl, rfl, rfl, h2, r2⟩ := trodAll_cons r1
  obtain ⟨rfl, rfl, rfl⟩ := trodAll_nil r2
  obtain rfl : args = #[v0, v1, v2] := by cases args; simp_all
  obtain ⟨rfl, rfl⟩ := trodVars_none hV
  have k0 := h0
  have lt0 := Opn.lt_of_trod h0
  obtain ⟨A0, c0, l0, rfl, hl0, hr0, hg0, hb0⟩ := Opn.paramu_slice (by kernel_rfl) ((Opn.Opu.slice (P := Try.prog) (t := 42) (e := 54) (bytes := 40) (by kernel_rfl) (by kernel_rfl) (by kernel_rfl) POrderMarks.o54)) (hval 0 42 v0 rfl rfl) h0 (Opn.sized hsz (j := 0) rfl rfl)
  obtain ⟨a1, rfl, rfl, rfl, w1⟩ := open_int Try.underlying3 (hval 1 3 v1 rfl rfl) h1
  obtain ⟨a2, rfl, rfl, rfl, w2⟩ := open_int Try.underlying3 (hval 2 3 v2 rfl rfl) h2
  have hN : (fun xs : List POrderMarks.S54 => (xs.map POrderMarks.B54).sum + 1) l0 + (fun _ : Int => 1) a1 + (fun _ : Int => 1) a2 ≤ 1048576 := by
    have z := Opn.small_le hkk
    simp only [List.append_nil, List.cons_append, List.nil_append, Rows.uptoBulkAll, Rows.uptoBulk] at z
    try dsimp only
    omega
  clear hA0 hval0 hsz0 hsz
  obtain ⟨kq, hp⟩ := Pure.OrderMarks l0 a1 a2 hg0 w1 w2 hN
  refine (POrderMarks.selvedgelaw14_OrderMarks.calls (k := kq) (A0 := A0) (c0 := c0) (l0 := l0) (hr0 := hr0) (hc0 := hl0) (a1 := a1) (a2 := a2) (r := true) (hr_ := rfl) (w := W) (h := hp)).mono fun e W' ⟨he, bel0⟩ => ?_
  have bel : Below W.heap.size W W' := bel0
  subst he
  exact ⟨_, rfl, _, _, _, [], _, [], hW', trodAll_mk1 (shut_bool Try.underlying4 _), (trodAll_cons_mk (Below.trod laidOut (by kernel_rfl) (of_decide_eq_true (by kernel_rfl)) k0 bel lt0) (trodAll_cons_mk (shut_int Try.underlying3 w1) (trodAll_cons_mk (shut_int Try.underlying3 w2) trodAll_mk0))), rfl, bel.frame _, fun h => by cases h⟩
set_option maxRecDepth 100000 in
theorem lifted (os : Os) (started : os.Started) (H : Type) (enc : TypeId × Value → H) (F : Stop.Interp) :
    ReturnsInHanded {} Try.checked os 4 .any ((Rows.OpenSpec.upto Rows.orderMarksSpec).pre6 enc Try.prog Try.f4 Rows.orderMarksUptoRow.domain false) (((Rows.OpenSpec.upto Rows.orderMarksSpec).at F).post enc Try.prog Try.f4 false true false false) := by
  refine returnsInHanded_of_cond_sized (C := Try.checked) (s := (Rows.OpenSpec.upto Rows.orderMarksSpec)) (k := Rows.uptoSmall) rfl own started (by kernel_rfl) Try.func4
    (OpenSpec.witness (enc := enc) (C := Try.checked) (s := (Rows.OpenSpec.upto Rows.orderMarksSpec)) (k := Rows.uptoSmall) rfl false ⟨#[], #[.slice none 0 0, .int .i64 0, .int .i64 0], []⟩ 8 (by kernel_rfl) (by kernel_rfl) (by kernel_rfl)
      (x := ([.nil, .lit (.int .i64 0), .lit (.int .i64 0)], [], [])) (by kernel_rfl) rfl (by kernel_rfl)) ?_
  intro W base args ds gs before hval hW _ hkk hsz _
  exact contract H enc W base args ds gs before hval hW hkk hsz
theorem closed : joinedFacts Try.prog 4 Try.f4 (Rows.OpenSpec.upto Rows.orderMarksSpec).bare Rows.orderMarksUptoRow = true := by
  rw [joinedFacts, Ini.may, Ini.lifts, Ini.make]
  kernel_rfl
theorem over : Rows.orderMarksUptoRow.holds Try.pinned (Rows.OpenSpec.upto Rows.orderMarksSpec) :=
  OpenClaim.holds_of_cond 4 Try.f4 rfl rfl rfl rfl rfl rfl rfl ⟨rfl, rfl, rfl, rfl, rfl⟩ rfl rfl rfl rfl rfl (by kernel_rfl) Try.func4 closed
    (of_decide_eq_true (by kernel_rfl)) (by unfold Func.isWrapper; first | (rw [if_pos (by decide +kernel)]; kernel_rfl) | (rw [if_neg (by decide +kernel)]; exact ⟨rfl, rfl⟩))
    (fun os started H enc _ F => lifted os started H enc F)
theorem proved : Rows.OrderMarksUptoSaid := over
#print axioms proved
end Go.Proofs.Ytcbfnmabckjijaa.orderMarks
namespace Go.Proofs.Ytcbfnmabckjijaa
/-- The row, under a short name, for the claim. -/
theorem orderMarks_holds : Rows.OrderMarksUptoSaid := orderMarks.proved
end Go.Proofs.Ytcbfnmabckjijaa
