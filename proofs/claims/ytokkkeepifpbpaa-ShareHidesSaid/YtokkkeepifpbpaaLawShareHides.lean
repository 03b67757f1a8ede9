/- Proved: the statement ShareHidesSaid: the law selvedge/selvedgelaw04.ShareHides answers true for every argument that its row allows. Conditions: those of the row, no other. Written by a program of this session (pp.py). -/
import Derived.Test.YtokkkeepifpbpaaRows
import Derived.Test.YtokkkeepifpbpaaArgShareHides
import Derived.Test.YtokkkeepifpbpaaPureShareHides
import Derived.WalkKit
import Derived.ProofKit
import Derived.OpenShut
import Derived.ShutString
import Derived.ChangeOld
import Derived.Below
import Derived.SizedLaws
namespace Go.Proofs.Ytokkkeepifpbpaa.shareHides
open Go.ChangeShapes Go.WideShapes Go.ChangeAt Go.RowKit
open Go.ChangeMaps (open_string shut_string)
set_option linter.unusedVariables false
theorem own : ownKnob Try.prog.godebug = none := by kernel_rfl
theorem laidOut : laidOutB Try.prog = true := by kernel_rfl
set_option maxRecDepth 100000 in
set_option maxHeartbeats 1000000 in
theorem lifted (os : Os) (started : os.Started) (H : Type) (enc : TypeId × Value → H) :
    ReturnsInHanded {} Try.checked os 19 .any (Rows.shareHidesSpec.pre6 enc Try.prog Try.f19 Rows.shareHidesRow.domain false) (Rows.shareHidesSpec.post enc Try.prog Try.f19 false true false false) := by
  refine returnsInHanded_of_change_sized (C := Try.checked) own started (by kernel_rfl) Try.func19
    (ChangeSpec.witness6 (enc := enc) (C := Try.checked) false ⟨#[], #[.slice none 0 0, .slice none 0 0, .agg #[.int .i64 0, .int .i64 0]], []⟩ 8 (by kernel_rfl) (by kernel_rfl) (by kernel_rfl) (by kernel_rfl)) ?_
  intro W base args ds gs before hval0 hW hcnd hsz0 _
  have hsz : (DataW.weightsEach Try.prog (Try.f19.params.toList ++ Rows.shareHidesSpec.plain.varTypes Try.prog) (ds ++ gs)).all (· ≤ reachBytes) = true := hsz0
  have hval : ∀ (j : Nat) t v, Try.f19.params[j]? = some t → args[j]? = some v → Value.okWide Try.prog W .any base t v := hval0
  have hW' := hW
  obtain ⟨p, q, hA0, hV, rfl, hfz, hnd⟩ := hW
  have hA : DataW.TrodAll enc Try.prog W 0 (fun _ => true) true Try.f19.params.toList args.toList ds p := hA0
  rw [Try.params19] at hA hval hsz
  obtain ⟨v0, vs0, d0, ds0, p0, q0, hargs, rfl, rfl, h0, r0⟩ := trodAll_cons hA
  obtain ⟨v1, vs1, d1, ds1, p1, q1, rfl, rfl, rfl, h1, r1⟩ := trodAll_cons r0
  obtain ⟨v2, vs2, d2, ds2, p2, q2, rfl, rfl, rfl, h2, r2⟩ := trodAll_cons r1
  obtain ⟨rfl, rfl, rfl⟩ := trodAll_nil r2
  obtain rfl : args = #[v0, v1, v2] := by cases args; simp_all
  obtain ⟨rfl, rfl⟩ := trodVars_none hV
  have k0 := h0
  have lt0 := Opn.lt_of_trod h0
  obtain ⟨A0, c0, l0, rfl, hl0, hr0, hg0⟩ := Opn.param_slice (by kernel_rfl) ((Opn.Opn.slice (P := Try.prog) (t := 41) (e := 23) (bytes := 16) (by kernel_rfl) (by kernel_rfl) (by kernel_rfl) PShareHides.o23)) (hval 0 41 v0 rfl rfl) h0 (Opn.sized hsz (j := 0) rfl rfl)
  have k1 := h1
  have lt1 := Opn.lt_of_trod h1
  obtain ⟨A1, c1, l1, rfl, hl1, hr1, hg1⟩ := Opn.param_slice (by kernel_rfl) ((Opn.Opn.slice (P := Try.prog) (t := 50) (e := 3) (bytes := 8) (by kernel_rfl) (by kernel_rfl) (by kernel_rfl) (Opn.Opn.int (P := Try.prog) (t := 3) (k := .i64) (by kernel_rfl) (by kernel_rfl)))) (hval 1 50 v1 rfl rfl) h1 (Opn.sized hsz (j := 1) rfl rfl)
  have k2 := h2
  have lt2 := Opn.lt_of_trod h2
  obtain ⟨cs2, x2, rfl, hk2, hg2⟩ := Opn.param_struct Try.underlying23 PShareHides.o23 (hval 2 23 v2 rfl rfl) h2 (Opn.sized hsz (j := 2) rfl rfl)
  obtain rfl := PShareHides.k23_open hk2
  clear hA0 hval0 hsz0 hsz
  obtain ⟨kq, hp⟩ := Pure.ShareHides l0 l1 x2 hg0 hg1 hg2
  refine (PShareHides.selvedgelaw04_ShareHides.calls (k := kq) (A0 := A0) (c0 := c0) (l0 := l0) (hr0 := hr0) (hc0 := hl0) (A1 := A1) (c1 := c1) (l1 := l1) (hr1 := hr1) (hc1 := hl1) (a2_0 := x2.f0) (a2_1 := x2.f1) (r := true) (w := W) (h := hp)).mono fun e W' ⟨he, bel0⟩ => ?_
  have bel : Below W.heap.size W W' := bel0
  subst he
  exact ⟨_, rfl, _, _, _, [], _, [], hW', trodAll_mk1 (shut_bool Try.underlying4 _), (trodAll_cons_mk (Below.trod laidOut (by kernel_rfl) (of_decide_eq_true (by kernel_rfl)) k0 bel lt0) (trodAll_cons_mk (Below.trod laidOut (by kernel_rfl) (of_decide_eq_true (by kernel_rfl)) k1 bel lt1) (trodAll_cons_mk (Below.trod laidOut (by kernel_rfl) (of_decide_eq_true (by kernel_rfl)) k2 bel lt2) trodAll_mk0))), rfl, bel.frame _, fun h => by cases h⟩
theorem over : Rows.shareHidesRow.holds Try.pinned (OpenSpec.ofChange Rows.shareHidesSpec) :=
  OpenClaim.holds_of_wide 19 Try.f19 rfl rfl rfl rfl rfl rfl rfl ⟨rfl, rfl, rfl, rfl, rfl⟩ rfl rfl rfl rfl rfl (by kernel_rfl) Try.func19 (by kernel_rfl)
    (of_decide_eq_true (by kernel_rfl)) (by unfold Func.isWrapper; first | (rw [if_pos (by decide +kernel)]; kernel_rfl) | (rw [if_neg (by decide +kernel)]; exact ⟨rfl, rfl⟩))
    (fun os started H enc _ => lifted os started H enc)
theorem proved : Rows.ShareHidesSaid := over
#print axioms proved
end Go.Proofs.Ytokkkeepifpbpaa.shareHides
namespace Go.Proofs.Ytokkkeepifpbpaa
/-- The row, under a short name, for the claim. -/
theorem shareHides_holds : Rows.ShareHidesSaid := shareHides.proved
end Go.Proofs.Ytokkkeepifpbpaa
