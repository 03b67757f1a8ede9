/- Proved: the statement CutFeedsUptoSaid: the law selvedge/selvedgelaw15.CutFeeds answers true for every argument that its row allows. Conditions: those of the row, no other. Written by a program of this session (pp.py). -/
import Derived.Test.YtefdokolbdnjnaaRows
import Derived.Test.YtefdokolbdnjnaaVCutFeedsIni
import Derived.Test.YtefdokolbdnjnaaArgCutFeeds
import Derived.Test.YtefdokolbdnjnaaPureCutFeeds
import Derived.WalkKit
import Derived.ProofKit
import Derived.OpenShut
import Derived.ShutString
import Derived.ChangeOld
import Derived.Below
import Derived.SizedLaws
import Derived.JoinedCond
import Derived.Deep.CondSized
namespace Go.Proofs.Ytefdokolbdnjnaa.cutFeeds
open Go.ChangeShapes Go.WideShapes Go.ChangeAt Go.RowKit
open Go.ChangeMaps (open_string shut_string)
set_option linter.unusedVariables false
set_option linter.unusedSimpArgs false
theorem own : ownKnob Try.prog.godebug = none := by kernel_rfl
theorem laidOut : laidOutB Try.prog = true := by kernel_rfl
set_option maxRecDepth 100000 in
set_option maxHeartbeats 1000000 in
theorem contract (H : Type) (enc : TypeId × Value → H) (W : World) (base : Nat) (args : Array Value) (ds gs : List (DataW H)) (before : List MemPlace)
    (hval0 : ∀ (j : Nat) t v, Try.f11.params[j]? = some t → args[j]? = some v → Value.okWide Try.prog W .any base t v)
    (hW : DataW.Whole enc Try.prog Try.f11.params.toList Rows.cutFeedsSpec.vars false W args.toList ds gs before)
    (hkk : Rows.uptoSmall H (ds ++ gs) = true) (hsz0 : (DataW.weightsEach Try.prog (Try.f11.params.toList ++ Rows.cutFeedsSpec.plain.varTypes Try.prog) (ds ++ gs)).all (· ≤ reachBytes) = true) :
    Calls Try.prog 11 args W fun e W' => ∃ v, e = .returned v ∧ Rows.cutFeedsSpec.post enc Try.prog Try.f11 false true false false W args v W' := by
  have hsz : (DataW.weightsEach Try.prog (Try.f11.params.toList ++ Rows.cutFeedsSpec.plain.varTypes Try.prog) (ds ++ gs)).all (· ≤ reachBytes) = true := hsz0
  have hval : ∀ (j : Nat) t v, Try.f11.params[j]? = some t → args[j]? = some v → Value.okWide Try.prog W .any base t v := hval0
  have hW' := hW
  obtain ⟨p, q, hA0, hV, rfl, hfz, hnd⟩ := hW
  have hA : DataW.TrodAll enc Try.prog W 0 (fun _ => true) true Try.f11.params.toList args.toList ds p := hA0
  rw [Try.params11] at hA hval hsz
  obtain ⟨v0, vs0, d0, ds0, p0, q0, hargs, rfl, rfl, h0, r0⟩ := trodAll_cons hA
  obtain ⟨rfl, rfl, rfl⟩ := trodAll_nil r0
  obtain rfl : args = #[v0] := by cases args; simp_all
  obtain ⟨rfl, rfl⟩ := trodVars_none hV
  have k0 := h0
  have lt0 := Opn.lt_of_trod h0
  obtain ⟨cs0, x0, rfl, hk0, hg0, hb0⟩ := Opn.paramu_struct Try.underlying42 PCutFeeds.o42 (hval 0 42 v0 rfl rfl) h0 (Opn.sized hsz (j := 0) rfl rfl)
  obtain ⟨A0_2, c0_2, A0_3, c0_3, A0_6, c0_6, rfl, hl0_2, hr0_2, hl0_3, hr0_3, hl0_6, hr0_6⟩ := PCutFeeds.k42_open hk0
  have hN : PCutFeeds.B42 x0 ≤ 1048576 := by
    have z := Opn.small_le hkk
    simp only [List.append_nil, List.cons_append, List.nil_append, Rows.uptoBulkAll, Rows.uptoBulk] at z
    try dsimp only
    omega
  clear hA0 hval0 hsz0 hsz
  obtain ⟨kq, hp⟩ := Pure.CutFeeds x0 hg0 hN
  refine (PCutFeeds.selvedgelaw15_CutFeeds.calls (k := kq) (a0_0 := x0.f0.f0) (a0_1 := x0.f0.f1) (A0_2 := A0_2) (c0_2 := c0_2) (l0_2 := x0.f0.f2) (hr0_2 := hr0_2) (hc0_2 := hl0_2) (A0_3 := A0_3) (c0_3 := c0_3) (l0_3 := x0.f1) (hr0_3 := hr0_3) (hc0_3 := hl0_3) (a0_4 := x0.f2.f0) (a0_5 := x0.f2.f1) (A0_6 := A0_6) (c0_6 := c0_6) (l0_6 := x0.f2.f2) (hr0_6 := hr0_6) (hc0_6 := hl0_6) (a0_7 := x0.f3) (r := true) (w := W) (h := hp)).mono fun e W' ⟨he, bel0⟩ => ?_
  have bel : Below W.heap.size W W' := bel0
  subst he
  exact ⟨_, rfl, _, _, _, [], _, [], hW', trodAll_mk1 (shut_bool Try.underlying4 _), (trodAll_cons_mk (Below.trod laidOut (by kernel_rfl) (of_decide_eq_true (by kernel_rfl)) k0 bel lt0) trodAll_mk0), rfl, bel.frame _, fun h => by cases h⟩
set_option maxRecDepth 100000 in
theorem lifted (os : Os) (started : os.Started) (H : Type) (enc : TypeId × Value → H) (F : Stop.Interp) :
    ReturnsInHanded {} Try.checked os 11 .any ((Rows.OpenSpec.upto Rows.cutFeedsSpec).pre6 enc Try.prog Try.f11 Rows.cutFeedsUptoRow.domain false) (((Rows.OpenSpec.upto Rows.cutFeedsSpec).at F).post enc Try.prog Try.f11 false true false false) := by
  refine returnsInHanded_of_cond_sized (C := Try.checked) (s := (Rows.OpenSpec.upto Rows.cutFeedsSpec)) (k := Rows.uptoSmall) rfl own started (by kernel_rfl) Try.func11
    (OpenSpec.witness (enc := enc) (C := Try.checked) (s := (Rows.OpenSpec.upto Rows.cutFeedsSpec)) (k := Rows.uptoSmall) rfl false ⟨#[], #[.agg #[.int .i64 0, .string ByteArray.empty, .slice none 0 0, .slice none 0 0, .int .i64 0, .string ByteArray.empty, .slice none 0 0, .string ByteArray.empty]], []⟩ 8 (by kernel_rfl) (by kernel_rfl) (by kernel_rfl)
      (x := ([.agg [.agg [.lit (.int .i64 0), .lit (.string []), .nil], .nil, .agg [.lit (.int .i64 0), .lit (.string []), .nil], .lit (.string [])]], [], [])) (by kernel_rfl) rfl (by kernel_rfl)) ?_
  intro W base args ds gs before hval hW _ hkk hsz _
  exact contract H enc W base args ds gs before hval hW hkk hsz
theorem closed : joinedFacts Try.prog 11 Try.f11 (Rows.OpenSpec.upto Rows.cutFeedsSpec).bare Rows.cutFeedsUptoRow = true := by
  rw [joinedFacts, Ini.may, Ini.lifts, Ini.make]
  kernel_rfl
theorem over : Rows.cutFeedsUptoRow.holds Try.pinned (Rows.OpenSpec.upto Rows.cutFeedsSpec) :=
  OpenClaim.holds_of_cond 11 Try.f11 rfl rfl rfl rfl rfl rfl rfl ⟨rfl, rfl, rfl, rfl, rfl⟩ rfl rfl rfl rfl rfl (by kernel_rfl) Try.func11 closed
    (of_decide_eq_true (by kernel_rfl)) (by unfold Func.isWrapper; first | (rw [if_pos (by decide +kernel)]; kernel_rfl) | (rw [if_neg (by decide +kernel)]; exact ⟨rfl, rfl⟩))
    (fun os started H enc _ F => lifted os started H enc F)
theorem proved : Rows.CutFeedsUptoSaid := over
#print axioms proved
end Go.Proofs.Ytefdokolbdnjnaa.cutFeeds
namespace Go.Proofs.Ytefdokolbdnjnaa
/-- The row, under a short name, for the claim. -/
theorem cutFeeds_holds : Rows.CutFeedsUptoSaid := cutFeeds.proved
end Go.Proofs.Ytefdokolbdnjnaa
