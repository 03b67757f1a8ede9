/- Proved: the statement CutPrefixUptoSaid: the law selvedge/selvedgelaw15.CutPrefix answers true for every argument that its row allows. Conditions: those of the row, no other. Written by a program of this session (pp.py). -/
import Derived.Test.YtiknkkkfkifahaaRows
import Derived.Test.YtiknkkkfkifahaaIni
import Derived.Test.YtiknkkkfkifahaaArgCutPrefix
import Derived.Test.YtiknkkkfkifahaaPureCutPrefix
import Derived.WalkKit
import Derived.ProofKit
import Derived.OpenShut
import Derived.ShutString
import Derived.ChangeOld
import Derived.Below
import Derived.SizedLaws
import Derived.JoinedCond
import Derived.Deep.CondSized
namespace Go.Proofs.Ytiknkkkfkifahaa.cutPrefix
open Go.ChangeShapes Go.WideShapes Go.ChangeAt Go.RowKit
open Go.ChangeMaps (open_string shut_string)
open Go.Proofs.YtiknkkkfkifahaaW.PrintWords Go.Proofs.YtiknkkkfkifahaaW.PrintLast Go.Proofs.YtiknkkkfkifahaaW.PrintMore
set_option linter.unusedVariables false
set_option linter.unusedSimpArgs false
theorem own : ownKnob Try.prog.godebug = none := by kernel_rfl
theorem laidOut : laidOutB Try.prog = true := by kernel_rfl
set_option maxRecDepth 100000 in
set_option maxHeartbeats 1000000 in
theorem contract (H : Type) (enc : TypeId × Value → H) (W : World) (base : Nat) (args : Array Value) (ds gs : List (DataW H)) (before : List MemPlace)
    (hval0 : ∀ (j : Nat) t v, Try.f6.params[j]? = some t → args[j]? = some v → Value.okWide Try.prog W .any base t v)
    (hW : DataW.Whole enc Try.prog Try.f6.params.toList Rows.cutPrefixSpec.vars false W args.toList ds gs before)
    (hkk : Rows.uptoSmall H (ds ++ gs) = true) (hsz0 : (DataW.weightsEach Try.prog (Try.f6.params.toList ++ Rows.cutPrefixSpec.plain.varTypes Try.prog) (ds ++ gs)).all (· ≤ reachBytes) = true) :
    Calls Try.prog 6 args W fun e W' => ∃ v, e = .returned v ∧ Rows.cutPrefixSpec.post enc Try.prog Try.f6 false true false false W args v W' := by
  have hsz : (DataW.weightsEach Try.prog (Try.f6.params.toList ++ Rows.cutPrefixSpec.plain.varTypes Try.prog) (ds ++ gs)).all (· ≤ reachBytes) = true := hsz0
  have hval : ∀ (j : Nat) t v, Try.f6.params[j]? = some t → args[j]? = some v → Value.okWide Try.prog W .any base t v := hval0
  have hW' := hW
  obtain ⟨p, q, hA0, hV, rfl, hfz, hnd⟩ := hW
  have hA : DataW.TrodAll enc Try.prog W 0 (fun _ => true) true Try.f6.params.toList args.toList ds p := hA0
  rw [Try.params6] at hA hval hsz
  obtain ⟨v0, vs0, d0, ds0, p0, q0, hargs, rfl, rfl, h0, r0⟩ := trodAll_cons hA
  obtain ⟨v1, vs1, d1, ds1, p1, q1, rfl, rfl, rfl, h1, r1⟩ := trodAll_cons r0
  obtain ⟨rfl, rfl, rfl⟩ := trodAll_nil r1
  obtain rfl : args = #[v0, v1] := by cases args; simp_all
  obtain ⟨rfl, rfl⟩ := trodVars_none hV
  have k0 := h0
  have lt0 := Opn.lt_of_trod h0
  obtain ⟨A0, c0, l0, rfl, hl0, hr0, hg0, hb0⟩ := Opn.paramu_slice (by kernel_rfl) ((Opn.Opu.slice (P := Try.prog) (t := 38) (e := 42) (bytes := 32) (by kernel_rfl) (by kernel_rfl) (by kernel_rfl) PCutPrefix.o42)) (hval 0 38 v0 rfl rfl) h0 (Opn.sized hsz (j := 0) rfl rfl)
  have k1 := h1
  have lt1 := Opn.lt_of_trod h1
  obtain ⟨A1, c1, l1, rfl, hl1, hr1, hg1, hb1⟩ := Opn.paramu_slice (by kernel_rfl) ((Opn.Opu.slice (P := Try.prog) (t := 38) (e := 42) (bytes := 32) (by kernel_rfl) (by kernel_rfl) (by kernel_rfl) PCutPrefix.o42)) (hval 1 38 v1 rfl rfl) h1 (Opn.sized hsz (j := 1) rfl rfl)
  have hN : (fun xs : List PCutPrefix.S42 => (xs.map PCutPrefix.B42).sum + 1) l0 + (fun xs : List PCutPrefix.S42 => (xs.map PCutPrefix.B42).sum + 1) l1 ≤ 1048576 := by
    have z := Opn.small_le hkk
    simp only [List.append_nil, List.cons_append, List.nil_append, Rows.uptoBulkAll, Rows.uptoBulk] at z
    try dsimp only
    omega
  clear hA0 hval0 hsz0 hsz
  obtain ⟨kq, hp⟩ := Pure.CutPrefix l0 l1 hg0 hg1 hN
  refine (PCutPrefix.selvedgelaw15_CutPrefix.calls (k := kq) (P0_ := fun k_ => k_ < W.heap.size) (A0 := A0) (c0 := c0) (l0 := l0) (hs0 := Kd.V_mk hl0 (Kd.C_F (show Kd.Heap PCutPrefix.k42 from Kd.heap_iso _ (Kd.heap_pair (Kd.heap_slice 9 Kd.heap_string) Kd.heap_bool)) hr0)) (P1_ := fun k_ => k_ < W.heap.size) (A1 := A1) (c1 := c1) (l1 := l1) (hs1 := Kd.V_mk hl1 (Kd.C_F (show Kd.Heap PCutPrefix.k42 from Kd.heap_iso _ (Kd.heap_pair (Kd.heap_slice 9 Kd.heap_string) Kd.heap_bool)) hr1)) (r := true) (hr_ := rfl) (w := W) (h := hp)).mono fun e W' ⟨he, bel0⟩ => ?_
  have bel : Below W.heap.size W W' := bel0
  subst he
  exact ⟨_, rfl, _, _, _, [], _, [], hW', trodAll_mk1 (shut_bool Try.underlying4 _), (trodAll_cons_mk (Below.trod laidOut (by kernel_rfl) (of_decide_eq_true (by kernel_rfl)) k0 bel lt0) (trodAll_cons_mk (Below.trod laidOut (by kernel_rfl) (of_decide_eq_true (by kernel_rfl)) k1 bel lt1) trodAll_mk0)), rfl, bel.frame _, fun h => by cases h⟩
set_option maxRecDepth 100000 in
theorem lifted (os : Os) (started : os.Started) (H : Type) (enc : TypeId × Value → H) (F : Stop.Interp) :
    ReturnsInHanded {} Try.checked os 6 .any ((Rows.OpenSpec.upto Rows.cutPrefixSpec).pre6 enc Try.prog Try.f6 Rows.cutPrefixUptoRow.domain false) (((Rows.OpenSpec.upto Rows.cutPrefixSpec).at F).post enc Try.prog Try.f6 false true false false) := by
  refine returnsInHanded_of_cond_sized (C := Try.checked) (s := (Rows.OpenSpec.upto Rows.cutPrefixSpec)) (k := Rows.uptoSmall) rfl own started (by kernel_rfl) Try.func6
    (OpenSpec.witness (enc := enc) (C := Try.checked) (s := (Rows.OpenSpec.upto Rows.cutPrefixSpec)) (k := Rows.uptoSmall) rfl false ⟨#[], #[.slice none 0 0, .slice none 0 0], []⟩ 8 (by kernel_rfl) (by kernel_rfl) (by kernel_rfl)
      (x := ([.nil, .nil], [], [])) (by kernel_rfl) rfl (by kernel_rfl)) ?_
  intro W base args ds gs before hval hW _ hkk hsz _
  exact contract H enc W base args ds gs before hval hW hkk hsz
theorem closed : joinedFacts Try.prog 6 Try.f6 (Rows.OpenSpec.upto Rows.cutPrefixSpec).bare Rows.cutPrefixUptoRow = true := by
  rw [joinedFacts, Ini.may, Ini.lifts, Ini.make]
  kernel_rfl
theorem over : Rows.cutPrefixUptoRow.holds Try.pinned (Rows.OpenSpec.upto Rows.cutPrefixSpec) :=
  OpenClaim.holds_of_cond 6 Try.f6 rfl rfl rfl rfl rfl rfl rfl ⟨rfl, rfl, rfl, rfl, rfl⟩ rfl rfl rfl rfl rfl (by kernel_rfl) Try.func6 closed
    (of_decide_eq_true (by kernel_rfl)) (by unfold Func.isWrapper; first | (rw [if_pos (by decide +kernel)]; kernel_rfl) | (rw [if_neg (by decide +kernel)]; exact ⟨rfl, rfl⟩))
    (fun os started H enc _ F => lifted os started H enc F)
theorem proved : Rows.CutPrefixUptoSaid := over
#print axioms proved
end Go.Proofs.Ytiknkkkfkifahaa.cutPrefix
namespace Go.Proofs.Ytiknkkkfkifahaa
/-- The row, under a short name, for the claim. -/
theorem cutPrefix_holds : Rows.CutPrefixUptoSaid := cutPrefix.proved
end Go.Proofs.Ytiknkkkfkifahaa
