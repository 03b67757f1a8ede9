/- Proved: the statement ShareSpoiltSaid: the law selvedge/selvedgelaw04.ShareSpoilt answers true for every argument that its row allows. Conditions: those of the row, no other. Written by a program of this session (pp.py). -/
import Derived.Test.YtokkkeepifpbpaaRows
import Derived.Test.YtokkkeepifpbpaaArgShareSpoilt
import Derived.Test.YtokkkeepifpbpaaPureShareSpoilt
import Derived.WalkKit
import Derived.ProofKit
import Derived.OpenShut
import Derived.ShutString
import Derived.ChangeOld
import Derived.Below
import Derived.SizedLaws
namespace Go.Proofs.Ytokkkeepifpbpaa.shareSpoilt
open Go.ChangeShapes Go.WideShapes Go.ChangeAt Go.RowKit
open Go.ChangeMaps (open_string shut_string)
set_option linter.unusedVariables false
theorem own : ownKnob Try.prog.godebug = none := by kernel_rfl
theorem laidOut : laidOutB Try.prog = true := by kernel_rfl
set_option maxRecDepth 100000 in
set_option maxHeartbeats 1000000 in
theorem lifted (os : Os) (started : os.Started) (H : Type) (enc : TypeId × Value → H) :
    ReturnsInHanded {} Try.checked os 17 .any (Rows.shareSpoiltSpec.pre6 enc Try.prog Try.f17 Rows.shareSpoiltRow.domain false) (Rows.shareSpoiltSpec.post enc Try.prog Try.f17 false true false false) := by
  refine returnsInHanded_of_change_sized (C := Try.checked) own started (by kernel_rfl) Try.func17
    (ChangeSpec.witness6 (enc := enc) (C := Try.checked) false ⟨#[], #[.agg #[.slice none 0 0, .slice none 0 0, .int .i64 0, .int .i64 0, .int .i64 0]], []⟩ 8 (by kernel_rfl) (by kernel_rfl) (by kernel_rfl) (by kernel_rfl)) ?_
  intro W base args ds gs before hval0 hW hcnd hsz0 _
  have hsz : (DataW.weightsEach Try.prog (Try.f17.params.toList ++ Rows.shareSpoiltSpec.plain.varTypes Try.prog) (ds ++ gs)).all (· ≤ reachBytes) = true := hsz0
  have hval : ∀ (j : Nat) t v, Try.f17.params[j]? = some t → args[j]? = some v → Value.okWide Try.prog W .any base t v := hval0
  have hW' := hW
  obtain ⟨p, q, hA0, hV, rfl, hfz, hnd⟩ := hW
  have hA : DataW.TrodAll enc Try.prog W 0 (fun _ => true) true Try.f17.params.toList args.toList ds p := hA0
  rw [Try.params17] at hA hval hsz
  obtain ⟨v0, vs0, d0, ds0, p0, q0, hargs, rfl, rfl, h0, r0⟩ := trodAll_cons hA
  obtain ⟨rfl, rfl, rfl⟩ := trodAll_nil r0
  obtain rfl : args = #[v0] := by cases args; simp_all
  obtain ⟨rfl, rfl⟩ := trodVars_none hV
  have k0 := h0
  have lt0 := Opn.lt_of_trod h0
  obtain ⟨cs0, x0, rfl, hk0, hg0⟩ := Opn.param_struct Try.underlying59 PShareSpoilt.o59 (hval 0 59 v0 rfl rfl) h0 (Opn.sized hsz (j := 0) rfl rfl)
  obtain ⟨A0_0, c0_0, A0_1, c0_1, rfl, hl0_0, hr0_0, hl0_1, hr0_1⟩ := PShareSpoilt.k59_open hk0
  clear hA0 hval0 hsz0 hsz
  obtain ⟨kq, hp⟩ := Pure.ShareSpoilt x0 hg0
  refine (PShareSpoilt.selvedgelaw04_ShareSpoilt.calls (k := kq) (A0_0 := A0_0) (c0_0 := c0_0) (l0_0 := x0.f0) (hr0_0 := hr0_0) (hc0_0 := hl0_0) (A0_1 := A0_1) (c0_1 := c0_1) (l0_1 := x0.f1) (hr0_1 := hr0_1) (hc0_1 := hl0_1) (a0_2 := x0.f2) (a0_3 := x0.f3.f0) (a0_4 := x0.f3.f1) (r := true) (w := W) (h := hp)).mono fun e W' ⟨he, bel0⟩ => ?_
  have bel : Below W.heap.size W W' := bel0
  subst he
  exact ⟨_, rfl, _, _, _, [], _, [], hW', trodAll_mk1 (shut_bool Try.underlying4 _), (trodAll_cons_mk (Below.trod laidOut (by kernel_rfl) (of_decide_eq_true (by kernel_rfl)) k0 bel lt0) trodAll_mk0), rfl, bel.frame _, fun h => by cases h⟩
theorem over : Rows.shareSpoiltRow.holds Try.pinned (OpenSpec.ofChange Rows.shareSpoiltSpec) :=
  OpenClaim.holds_of_wide 17 Try.f17 rfl rfl rfl rfl rfl rfl rfl ⟨rfl, rfl, rfl, rfl, rfl⟩ rfl rfl rfl rfl rfl (by kernel_rfl) Try.func17 (by kernel_rfl)
    (of_decide_eq_true (by kernel_rfl)) (by unfold Func.isWrapper; first | (rw [if_pos (by decide +kernel)]; kernel_rfl) | (rw [if_neg (by decide +kernel)]; exact ⟨rfl, rfl⟩))
    (fun os started H enc _ => lifted os started H enc)
theorem proved : Rows.ShareSpoiltSaid := over
#print axioms proved
end Go.Proofs.Ytokkkeepifpbpaa.shareSpoilt
namespace Go.Proofs.Ytokkkeepifpbpaa
/-- The row, under a short name, for the claim. -/
theorem shareSpoilt_holds : Rows.ShareSpoiltSaid := shareSpoilt.proved
end Go.Proofs.Ytokkkeepifpbpaa
