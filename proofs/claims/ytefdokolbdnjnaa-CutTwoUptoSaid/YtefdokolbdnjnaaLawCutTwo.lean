/- Proved: the statement CutTwoUptoSaid: the law selvedge/selvedgelaw15.CutTwo answers true for every argument that its row allows. Conditions: those of the row, no other. Written by a program of this session (pp.py). -/
import Derived.Test.YtefdokolbdnjnaaRows
import Derived.Test.YtefdokolbdnjnaaVCutTwoIni
import Derived.Test.YtefdokolbdnjnaaArgCutTwo
import Derived.Test.YtefdokolbdnjnaaPureCutTwo
import Derived.WalkKit
import Derived.ProofKit
import Derived.OpenShut
import Derived.ShutString
import Derived.ChangeOld
import Derived.Below
import Derived.SizedLaws
import Derived.JoinedCond
import Derived.Deep.CondSized
namespace Go.Proofs.Ytefdokolbdnjnaa.cutTwo
open Go.ChangeShapes Go.WideShapes Go.ChangeAt Go.RowKit
open Go.ChangeMaps (open_string shut_string)
set_option linter.unusedVariables false
set_option linter.unusedSimpArgs false
theorem own : ownKnob Try.prog.godebug = none := by kernel_rfl
theorem laidOut : laidOutB Try.prog = true := by kernel_rfl
set_option maxRecDepth 100000 in
set_option maxHeartbeats 1000000 in
theorem contract (H : Type) (enc : TypeId × Value → H) (W : World) (base : Nat) (args : Array Value) (ds gs : List (DataW H)) (before : List MemPlace)
    (hval0 : ∀ (j : Nat) t v, Try.f15.params[j]? = some t → args[j]? = some v → Value.okWide Try.prog W .any base t v)
    (hW : DataW.Whole enc Try.prog Try.f15.params.toList Rows.cutTwoSpec.vars false W args.toList ds gs before)
    (hkk : Rows.uptoSmall H (ds ++ gs) = true) (hsz0 : (DataW.weightsEach Try.prog (Try.f15.params.toList ++ Rows.cutTwoSpec.plain.varTypes Try.prog) (ds ++ gs)).all (· ≤ reachBytes) = true) :
    Calls Try.prog 15 args W fun e W' => ∃ v, e = .returned v ∧ Rows.cutTwoSpec.post enc Try.prog Try.f15 false true false false W args v W' := by
  have hsz : (DataW.weightsEach Try.prog (Try.f15.params.toList ++ Rows.cutTwoSpec.plain.varTypes Try.prog) (ds ++ gs)).all (· ≤ reachBytes) = true := hsz0
  have hval : ∀ (j : Nat) t v, Try.f15.params[j]? = some t → args[j]? = some v → Value.okWide Try.prog W .any base t v := hval0
  have hW' := hW
  obtain ⟨p, q, hA0, hV, rfl, hfz, hnd⟩ := hW
  have hA : DataW.TrodAll enc Try.prog W 0 (fun _ => true) true Try.f15.params.toList args.toList ds p := hA0
  rw [Try.params15] at hA hval hsz
  obtain ⟨v0, vs0, d0, ds0, p0, q0, hargs, rfl, rfl, h0, r0⟩ := trodAll_cons hA
  obtain ⟨v1, vs1, d1, ds1, p1, q1, rfl, rfl, rfl, h1, r1⟩ := trodAll_cons r0
  obtain ⟨v2, vs2, d2, ds2, p2, q2, rfl, rfl, rfl, h2, r2⟩ := trodAll_cons r1
  obtain ⟨rfl, rfl, rfl⟩ := trodAll_nil r2
  obtain rfl : args = #[v0, v1, v2] := by cases args; simp_all
  obtain ⟨rfl, rfl⟩ := trodVars_none hV
  have k0 := h0
  have lt0 := Opn.lt_of_trod h0
  obtain ⟨cs0, x0, rfl, hk0, hg0, hb0⟩ := Opn.paramu_struct Try.underlying39 PCutTwo.o39 (hval 0 39 v0 rfl rfl) h0 (Opn.sized hsz (j := 0) rfl rfl)
  obtain ⟨A0_2, c0_2, rfl, hl0_2, hr0_2⟩ := PCutTwo.k39_open hk0
  have k1 := h1
  have lt1 := Opn.lt_of_trod h1
  obtain ⟨A1, c1, l1, rfl, hl1, hr1, hg1, hb1⟩ := Opn.paramu_slice (by kernel_rfl) ((Opn.Opu.slice (P := Try.prog) (t := 37) (e := 9) (bytes := 16) (by kernel_rfl) (by kernel_rfl) (by kernel_rfl) (Opn.Opu.string (P := Try.prog) (t := 9) (by kernel_rfl) (by kernel_rfl)))) (hval 1 37 v1 rfl rfl) h1 (Opn.sized hsz (j := 1) rfl rfl)
  have k2 := h2
  have lt2 := Opn.lt_of_trod h2
  obtain ⟨A2, c2, l2, rfl, hl2, hr2, hg2, hb2⟩ := Opn.paramu_slice (by kernel_rfl) ((Opn.Opu.slice (P := Try.prog) (t := 37) (e := 9) (bytes := 16) (by kernel_rfl) (by kernel_rfl) (by kernel_rfl) (Opn.Opu.string (P := Try.prog) (t := 9) (by kernel_rfl) (by kernel_rfl)))) (hval 2 37 v2 rfl rfl) h2 (Opn.sized hsz (j := 2) rfl rfl)
  have hN : PCutTwo.B39 x0 + (fun xs : List ByteArray => (xs.map (fun s : ByteArray => s.size + 1)).sum + 1) l1 + (fun xs : List ByteArray => (xs.map (fun s : ByteArray => s.size + 1)).sum + 1) l2 ≤ 1048576 := by
    have z := Opn.small_le hkk
    simp only [List.append_nil, List.cons_append, List.nil_append, Rows.uptoBulkAll, Rows.uptoBulk] at z
    try dsimp only
    omega
  clear hA0 hval0 hsz0 hsz
  obtain ⟨kq, hp⟩ := Pure.CutTwo x0 l1 l2 hg0 hg1 hg2 hN
  refine (PCutTwo.selvedgelaw15_CutTwo.calls (k := kq) (a0_0 := x0.f0) (a0_1 := x0.f1) (A0_2 := A0_2) (c0_2 := c0_2) (l0_2 := x0.f2) (hr0_2 := hr0_2) (hc0_2 := hl0_2) (A1 := A1) (c1 := c1) (l1 := l1) (hr1 := hr1) (hc1 := hl1) (A2 := A2) (c2 := c2) (l2 := l2) (hr2 := hr2) (hc2 := hl2) (r := true) (w := W) (h := hp)).mono fun e W' ⟨he, bel0⟩ => ?_
  have bel : Below W.heap.size W W' := bel0
  subst he
  exact ⟨_, rfl, _, _, _, [], _, [], hW', trodAll_mk1 (shut_bool Try.underlying4 _), (trodAll_cons_mk (Below.trod laidOut (by kernel_rfl) (of_decide_eq_true (by kernel_rfl)) k0 bel lt0) (trodAll_cons_mk (Below.trod laidOut (by kernel_rfl) (of_decide_eq_true (by kernel_rfl)) k1 bel lt1) (trodAll_cons_mk (Below.trod laidOut (by kernel_rfl) (of_decide_eq_true (by kernel_rfl)) k2 bel lt2) trodAll_mk0))), rfl, bel.frame _, fun h => by cases h⟩
set_option maxRecDepth 100000 in
theorem lifted (os : Os) (started : os.Started) (H : Type) (enc : TypeId × Value → H) (F : Stop.Interp) :
    ReturnsInHanded {} Try.checked os 15 .any ((Rows.OpenSpec.upto Rows.cutTwoSpec).pre6 enc Try.prog Try.f15 Rows.cutTwoUptoRow.domain false) (((Rows.OpenSpec.upto Rows.cutTwoSpec).at F).post enc Try.prog Try.f15 false true false false) := by
  refine returnsInHanded_of_cond_sized (C := Try.checked) (s := (Rows.OpenSpec.upto Rows.cutTwoSpec)) (k := Rows.uptoSmall) rfl own started (by kernel_rfl) Try.func15
    (OpenSpec.witness (enc := enc) (C := Try.checked) (s := (Rows.OpenSpec.upto Rows.cutTwoSpec)) (k := Rows.uptoSmall) rfl false ⟨#[], #[.agg #[.int .i64 0, .string ByteArray.empty, .slice none 0 0], .slice none 0 0, .slice none 0 0], []⟩ 8 (by kernel_rfl) (by kernel_rfl) (by kernel_rfl)
      (x := ([.agg [.lit (.int .i64 0), .lit (.string []), .nil], .nil, .nil], [], [])) (by kernel_rfl) rfl (by kernel_rfl)) ?_
  intro W base args ds gs before hval hW _ hkk hsz _
  exact contract H enc W base args ds gs before hval hW hkk hsz
theorem closed : joinedFacts Try.prog 15 Try.f15 (Rows.OpenSpec.upto Rows.cutTwoSpec).bare Rows.cutTwoUptoRow = true := by
  rw [joinedFacts, Ini.may, Ini.lifts, Ini.make]
  kernel_rfl
theorem over : Rows.cutTwoUptoRow.holds Try.pinned (Rows.OpenSpec.upto Rows.cutTwoSpec) :=
  OpenClaim.holds_of_cond 15 Try.f15 rfl rfl rfl rfl rfl rfl rfl ⟨rfl, rfl, rfl, rfl, rfl⟩ rfl rfl rfl rfl rfl (by kernel_rfl) Try.func15 closed
    (of_decide_eq_true (by kernel_rfl)) (by unfold Func.isWrapper; first | (rw [if_pos (by decide +kernel)]; kernel_rfl) | (rw [if_neg (by decide +kernel)]; exact ⟨rfl, rfl⟩))
    (fun os started H enc _ F => lifted os started H enc F)
theorem proved : Rows.CutTwoUptoSaid := over
#print axioms proved
end Go.Proofs.Ytefdokolbdnjnaa.cutTwo
namespace Go.Proofs.Ytefdokolbdnjnaa
/-- The row, under a short name, for the claim. -/
theorem cutTwo_holds : Rows.CutTwoUptoSaid := cutTwo.proved
end Go.Proofs.Ytefdokolbdnjnaa
