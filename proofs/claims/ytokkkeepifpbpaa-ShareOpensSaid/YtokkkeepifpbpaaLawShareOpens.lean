/- Proved: the statement ShareOpensSaid: the law selvedge/selvedgelaw04.ShareOpens answers true for every argument that its row allows. Conditions: those of the row, no other. Written by a program of this session (pp.py). -/
import Derived.Test.YtokkkeepifpbpaaRows
import Derived.Test.YtokkkeepifpbpaaArgShareOpens
import Derived.Test.YtokkkeepifpbpaaPureShareOpens
import Derived.WalkKit
import Derived.ProofKit
import Derived.OpenShut
import Derived.ShutString
import Derived.ChangeOld
import Derived.Below
import Derived.SizedLaws
namespace Go.Proofs.Ytokkkeepifpbpaa.shareOpens
open Go.ChangeShapes Go.WideShapes Go.ChangeAt Go.RowKit
open Go.ChangeMaps (open_string shut_string)
set_option linter.unusedVariables false
theorem own : ownKnob Try.prog.godebug = none := by kernel_rfl
theorem laidOut : laidOutB Try.prog = true := by kernel_rfl
set_option maxRecDepth 100000 in
set_option maxHeartbeats 1000000 in
theorem lifted (os : Os) (started : os.Started) (H : Type) (enc : TypeId × Value → H) :
    ReturnsInHanded {} Try.checked os 18 .any (Rows.shareOpensSpec.pre6 enc Try.prog Try.f18 Rows.shareOpensRow.domain false) (Rows.shareOpensSpec.post enc Try.prog Try.f18 false true false false) := by
  refine returnsInHanded_of_change_sized (C := Try.checked) own started (by kernel_rfl) Try.func18
    (ChangeSpec.witness6 (enc := enc) (C := Try.checked) false ⟨#[], #[.slice none 0 0, .int .i64 0], []⟩ 8 (by kernel_rfl) (by kernel_rfl) (by kernel_rfl) (by kernel_rfl)) ?_
  intro W base args ds gs before hval0 hW hcnd hsz0 _
  have hsz : (DataW.weightsEach Try.prog (Try.f18.params.toList ++ Rows.shareOpensSpec.plain.varTypes Try.prog) (ds ++ gs)).all (· ≤ reachBytes) = true := hsz0
  have hval : ∀ (j : Nat) t v, Try.f18.params[j]? = some t → args[j]? = some v → Value.okWide Try.prog W .any base t v := hval0
  have hW' := hW
  obtain ⟨p, q, hA0, hV, rfl, hfz, hnd⟩ := hW
  have hA : DataW.TrodAll enc Try.prog W 0 (fun _ => true) true Try.f18.params.toList args.toList ds p := hA0
  rw [Try.params18] at hA hval hsz
  obtain ⟨v0, vs0, d0, ds0, p0, q0, hargs, rfl, rfl, h0, r0⟩ := trodAll_cons hA
  obtain ⟨v1, vs1, d1, ds1, p1, q1, rfl, rfl, rfl, h1, r1⟩ := trodAll_cons r0
  obtain ⟨rfl, rfl, rfl⟩ := trodAll_nil r1
  obtain rfl : args = #[v0, v1] := by cases args; simp_all
  obtain ⟨rfl, rfl⟩ := trodVars_none hV
  have k0 := h0
  have lt0 := Opn.lt_of_trod h0
  obtain ⟨A0, c0, l0, rfl, hl0, hr0, hg0⟩ := Opn.param_slice (by kernel_rfl) ((Opn.Opn.slice (P := Try.prog) (t := 53) (e := 43) (bytes := 24) (by kernel_rfl) (by kernel_rfl) (by kernel_rfl) PShareOpens.o43)) (hval 0 53 v0 rfl rfl) h0 (Opn.sized hsz (j := 0) rfl rfl)
  obtain ⟨a1, rfl, rfl, rfl, w1⟩ := open_int Try.underlying3 (hval 1 3 v1 rfl rfl) h1
  clear hA0 hval0 hsz0 hsz
  obtain ⟨kq, hp⟩ := Pure.ShareOpens l0 a1 hg0 w1
  refine (PShareOpens.selvedgelaw04_ShareOpens.calls (k := kq) (A0 := A0) (c0 := c0) (l0 := l0) (hr0 := hr0) (hc0 := hl0) (a1 := a1) (r := true) (w := W) (h := hp)).mono fun e W' ⟨he, bel0⟩ => ?_
  have bel : Below W.heap.size W W' := bel0
  subst he
  exact ⟨_, rfl, _, _, _, [], _, [], hW', trodAll_mk1 (shut_bool Try.underlying4 _), (trodAll_cons_mk (Below.trod laidOut (by kernel_rfl) (of_decide_eq_true (by kernel_rfl)) k0 bel lt0) (trodAll_cons_mk (shut_int Try.underlying3 w1) trodAll_mk0)), rfl, bel.frame _, fun h => by cases h⟩
theorem over : Rows.shareOpensRow.holds Try.pinned (OpenSpec.ofChange Rows.shareOpensSpec) :=
  OpenClaim.holds_of_wide 18 Try.f18 rfl rfl rfl rfl rfl rfl rfl ⟨rfl, rfl, rfl, rfl, rfl⟩ rfl rfl rfl rfl rfl (by kernel_rfl) Try.func18 (by kernel_rfl)
    (of_decide_eq_true (by kernel_rfl)) (by unfold Func.isWrapper; first | (rw [if_pos (by decide +kernel)]; kernel_rfl) | (rw [if_neg (by decide +kernel)]; exact ⟨rfl, rfl⟩))
    (fun os started H enc _ => lifted os started H enc)
theorem proved : Rows.ShareOpensSaid := over
#print axioms proved
end Go.Proofs.Ytokkkeepifpbpaa.shareOpens
namespace Go.Proofs.Ytokkkeepifpbpaa
/-- The row, under a short name, for the claim. -/
theorem shareOpens_holds : Rows.ShareOpensSaid := shareOpens.proved
end Go.Proofs.Ytokkkeepifpbpaa
