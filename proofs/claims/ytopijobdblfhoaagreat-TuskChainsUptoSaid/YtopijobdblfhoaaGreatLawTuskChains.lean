/- Proved: the statement TuskChainsUptoSaid: the law selvedge/selvedgelaw13.TuskChains answers true for every argument that its row allows. Conditions: those of the row, no other. Written by a program of this session (pp.py). -/
import Derived.Test.YtopijobdblfhoaaGreatRows
import Derived.Test.YtopijobdblfhoaaGreatVTuskChainsIni
import Derived.Test.YtopijobdblfhoaaGreatArgTuskChains
import Derived.Test.YtopijobdblfhoaaGreatPureTuskChains
import Derived.WalkKit
import Derived.ProofKit
import Derived.OpenShut
import Derived.ShutString
import Derived.ChangeOld
import Derived.Below
import Derived.SizedLaws
import Derived.JoinedCond
import Derived.Deep.CondSized
namespace Go.Proofs.YtopijobdblfhoaaGreat.tuskChains
open Go.ChangeShapes Go.WideShapes Go.ChangeAt Go.RowKit
open Go.ChangeMaps (open_string shut_string)
set_option linter.unusedVariables false
set_option linter.unusedSimpArgs false
theorem own : ownKnob Tryz.prog.godebug = none := by kernel_rfl
theorem laidOut : laidOutB Tryz.prog = true := by kernel_rfl
set_option maxRecDepth 100000 in
set_option maxHeartbeats 1000000 in
theorem contract (H : Type) (enc : TypeId × Value → H) (W : World) (base : Nat) (args : Array Value) (ds gs : List (DataW H)) (before : List MemPlace)
    (hval0 : ∀ (j : Nat) t v, Tryz.f4.params[j]? = some t → args[j]? = some v → Value.okWide Tryz.prog W .any base t v)
    (hW : DataW.Whole enc Tryz.prog Tryz.f4.params.toList Rows.tuskChainsSpec.vars false W args.toList ds gs before)
    (hkk : Rows.uptoSmall H (ds ++ gs) = true) (hsz0 : (DataW.weightsEach Tryz.prog (Tryz.f4.params.toList ++ Rows.tuskChainsSpec.plain.varTypes Tryz.prog) (ds ++ gs)).all (· ≤ reachBytes) = true) :
    Calls Tryz.prog 4 args W fun e W' => ∃ v, e = .returned v ∧ Rows.tuskChainsSpec.post enc Tryz.prog Tryz.f4 false true false false W args v W' := by
  have hsz : (DataW.weightsEach Tryz.prog (Tryz.f4.params.toList ++ Rows.tuskChainsSpec.plain.varTypes Tryz.prog) (ds ++ gs)).all (· ≤ reachBytes) = true := hsz0
  have hval : ∀ (j : Nat) t v, Tryz.f4.params[j]? = some t → args[j]? = some v → Value.okWide Tryz.prog W .any base t v := hval0
  have hW' := hW
  obtain ⟨p, q, hA0, hV, rfl, hfz, hnd⟩ := hW
  have hA : DataW.TrodAll enc Tryz.prog W 0 (fun _ => true) true Tryz.f4.params.toList args.toList ds p := hA0
  rw [Tryz.params4] at hA hval hsz
  obtain ⟨v0, vs0, d0, ds0, p0, q0, hargs, rfl, rfl, h0, r0⟩ := trodAll_cons hA
  obtain ⟨v1, vs1, d1, ds1, p1, q1, rfl, rfl, rfl, h1, r1⟩ := trodAll_cons r0
  obtain ⟨rfl, rfl, rfl⟩ := trodAll_nil r1
  obtain rfl : args = #[v0, v1] := by cases args; simp_all
  obtain ⟨rfl, rfl⟩ := trodVars_none hV
  have k0 := h0
  have lt0 := Opn.lt_of_trod h0
  obtain ⟨cs0, x0, rfl, hk0, hg0, hb0⟩ := Opn.paramu_struct Tryz.underlying24 PTuskChains.o24 (hval 0 24 v0 rfl rfl) h0 (Opn.sized hsz (j := 0) rfl rfl)
  obtain ⟨A0_2, c0_2, rfl, hl0_2, hr0_2⟩ := PTuskChains.k24_open hk0
  obtain ⟨a1, rfl, rfl, rfl, w1⟩ := open_int Tryz.underlying3 (hval 1 3 v1 rfl rfl) h1
  have hN : PTuskChains.B24 x0 + (fun _ : Int => 1) a1 ≤ 1048576 := by
    have z := Opn.small_le hkk
    simp only [List.append_nil, List.cons_append, List.nil_append, Rows.uptoBulkAll, Rows.uptoBulk] at z
    try dsimp only
    omega
  clear hA0 hval0 hsz0 hsz
  obtain ⟨kq, hp⟩ := Pure.TuskChains x0 a1 hg0 w1 hN
  refine (PTuskChains.Fy.calls (k := kq) (a0_0 := x0.f0) (a0_1 := x0.f1) (A0_2 := A0_2) (c0_2 := c0_2) (l0_2 := x0.f2) (hr0_2 := hr0_2) (hc0_2 := hl0_2) (a1 := a1) (r := true) (hr_ := rfl) (w := W) (h := hp)).mono fun e W' ⟨he, bel0⟩ => ?_
  have bel : Below W.heap.size W W' := bel0
  subst he
  exact ⟨_, rfl, _, _, _, [], _, [], hW', trodAll_mk1 (shut_bool Tryz.underlying4 _), (trodAll_cons_mk (Below.trod laidOut (by kernel_rfl) (of_decide_eq_true (by kernel_rfl)) k0 bel lt0) (trodAll_cons_mk (shut_int Tryz.underlying3 w1) trodAll_mk0)), rfl, bel.frame _, fun h => by cases h⟩
set_option maxRecDepth 100000 in
theorem lifted (os : Os) (started : os.Started) (H : Type) (enc : TypeId × Value → H) (F : Stop.Interp) :
    ReturnsInHanded {} Tryz.checked os 4 .any ((Rows.OpenSpec.upto Rows.tuskChainsSpec).pre6 enc Tryz.prog Tryz.f4 Rows.tuskChainsUptoRow.domain false) (((Rows.OpenSpec.upto Rows.tuskChainsSpec).at F).post enc Tryz.prog Tryz.f4 false true false false) := by
  refine returnsInHanded_of_cond_sized (C := Tryz.checked) (s := (Rows.OpenSpec.upto Rows.tuskChainsSpec)) (k := Rows.uptoSmall) rfl own started (by kernel_rfl) Tryz.func4
    (OpenSpec.witness (enc := enc) (C := Tryz.checked) (s := (Rows.OpenSpec.upto Rows.tuskChainsSpec)) (k := Rows.uptoSmall) rfl false ⟨#[], #[.agg #[.int .i64 0, .int .i64 0, .slice none 0 0], .int .i64 0], []⟩ 8 (by kernel_rfl) (by kernel_rfl) (by kernel_rfl)
      (x := ([.agg [.lit (.int .i64 0), .lit (.int .i64 0), .nil], .lit (.int .i64 0)], [], [])) (by kernel_rfl) rfl (by kernel_rfl)) ?_
  intro W base args ds gs before hval hW _ hkk hsz _
  exact contract H enc W base args ds gs before hval hW hkk hsz
theorem closed : joinedFacts Tryz.prog 4 Tryz.f4 (Rows.OpenSpec.upto Rows.tuskChainsSpec).bare Rows.tuskChainsUptoRow = true := by
  rw [joinedFacts, Ini.may, Ini.lifts, Ini.make]
  kernel_rfl
theorem over : Rows.tuskChainsUptoRow.holds Tryz.pinned (Rows.OpenSpec.upto Rows.tuskChainsSpec) :=
  OpenClaim.holds_of_cond 4 Tryz.f4 rfl rfl rfl rfl rfl rfl rfl ⟨rfl, rfl, rfl, rfl, rfl⟩ rfl rfl rfl rfl rfl (by kernel_rfl) Tryz.func4 closed
    (of_decide_eq_true (by kernel_rfl)) (by unfold Func.isWrapper; first | (rw [if_pos (by decide +kernel)]; kernel_rfl) | (rw [if_neg (by decide +kernel)]; exact ⟨rfl, rfl⟩))
    (fun os started H enc _ F => lifted os started H enc F)
theorem proved : Rows.TuskChainsUptoSaid := over
#print axioms proved
end Go.Proofs.YtopijobdblfhoaaGreat.tuskChains
namespace Go.Proofs.YtopijobdblfhoaaGreat
/-- The row, under a short name, for the claim. -/
theorem tuskChains_holds : Rows.TuskChainsUptoSaid := tuskChains.proved
end Go.Proofs.YtopijobdblfhoaaGreat
