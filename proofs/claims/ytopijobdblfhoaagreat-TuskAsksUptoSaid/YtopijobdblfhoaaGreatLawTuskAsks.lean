/- Proved: the statement TuskAsksUptoSaid: the law selvedge/selvedgelaw13.TuskAsks answers true for every argument that its row allows. Conditions: those of the row, no other. Written by a program of this session (pp.py). -/
import Derived.Test.YtopijobdblfhoaaGreatRows
import Derived.Test.YtopijobdblfhoaaGreatVTuskAsksIni
import Derived.Test.YtopijobdblfhoaaGreatArgTuskAsks
import Derived.Test.YtopijobdblfhoaaGreatPureTuskAsks
import Derived.WalkKit
import Derived.ProofKit
import Derived.OpenShut
import Derived.ShutString
import Derived.ChangeOld
import Derived.Below
import Derived.SizedLaws
import Derived.JoinedCond
import Derived.Deep.CondSized
namespace Go.Proofs.YtopijobdblfhoaaGreat.tuskAsks
open Go.ChangeShapes Go.WideShapes Go.ChangeAt Go.RowKit
open Go.ChangeMaps (open_string shut_string)
set_option linter.unusedVariables false
set_option linter.unusedSimpArgs false
theorem own : ownKnob Tryz.prog.godebug = none := by kernel_rfl
theorem laidOut : laidOutB Tryz.prog = true := by kernel_rfl
set_option maxRecDepth 100000 in
set_option maxHeartbeats 1000000 in
theorem contract (H : Type) (enc : TypeId × Value → H) (W : World) (base : Nat) (args : Array Value) (ds gs : List (DataW H)) (before : List MemPlace)
    (hval0 : ∀ (j : Nat) t v, Tryz.f3.params[j]? = some t → args[j]? = some v → Value.okWide Tryz.prog W .any base t v)
    (hW : DataW.Whole enc Tryz.prog Tryz.f3.params.toList Rows.tuskAsksSpec.vars false W args.toList ds gs before)
    (hkk : Rows.uptoSmall H (ds ++ gs) = true) (hsz0 : (DataW.weightsEach Tryz.prog (Tryz.f3.params.toList ++ Rows.tuskAsksSpec.plain.varTypes Tryz.prog) (ds ++ gs)).all (· ≤ reachBytes) = true) :
    Calls Tryz.prog 3 args W fun e W' => ∃ v, e = .returned v ∧ Rows.tuskAsksSpec.post enc Tryz.prog Tryz.f3 false true false false W args v W' := by
  have hsz : (DataW.weightsEach Tryz.prog (Tryz.f3.params.toList ++ Rows.tuskAsksSpec.plain.varTypes Tryz.prog) (ds ++ gs)).all (· ≤ reachBytes) = true := hsz0
  have hval : ∀ (j : Nat) t v, Tryz.f3.params[j]? = some t → args[j]? = some v → Value.okWide Tryz.prog W .any base t v := hval0
  have hW' := hW
  obtain ⟨p, q, hA0, hV, rfl, hfz, hnd⟩ := hW
  have hA : DataW.TrodAll enc Tryz.prog W 0 (fun _ => true) true Tryz.f3.params.toList args.toList ds p := hA0
  rw [Tryz.params3] at hA hval hsz
  obtain ⟨v0, vs0, d0, ds0, p0, q0, hargs, rfl, rfl, h0, r0⟩ := trodAll_cons hA
  obtain ⟨v1, vs1, d1, ds1, p1, q1, rfl, rfl, rfl, h1, r1⟩ := trodAll_cons r0
  obtain ⟨v2, vs2, d2, ds2, p2, q2, rfl, rfl, rfl, h2, r2⟩ := trodAll_cons r1
  obtain ⟨rfl, rfl, rfl⟩ := trodAll_nil r2
  obtain rfl : args = #[v0, v1, v2] := by cases args; simp_all
  obtain ⟨rfl, rfl⟩ := trodVars_none hV
  have k0 := h0
  have lt0 := Opn.lt_of_trod h0
  obtain ⟨cs0, x0, rfl, hk0, hg0, hb0⟩ := Opn.paramu_struct Tryz.underlying24 PTuskAsks.o24 (hval 0 24 v0 rfl rfl) h0 (Opn.sized hsz (j := 0) rfl rfl)
  obtain ⟨A0_2, c0_2, rfl, hl0_2, hr0_2⟩ := PTuskAsks.k24_open hk0
  obtain ⟨a1, rfl, rfl, rfl, w1⟩ := open_int Tryz.underlying3 (hval 1 3 v1 rfl rfl) h1
  have k2 := h2
  have lt2 := Opn.lt_of_trod h2
  obtain ⟨cs2, x2, rfl, hk2, hg2, hb2⟩ := Opn.paramu_struct Tryz.underlying32 PTuskAsks.o32 (hval 2 32 v2 rfl rfl) h2 (Opn.sized hsz (j := 2) rfl rfl)
  obtain ⟨A2_3, c2_3, A2_4, c2_4, rfl, hl2_3, hr2_3, hl2_4, hr2_4⟩ := PTuskAsks.k32_open hk2
  have hN : PTuskAsks.B24 x0 + (fun _ : Int => 1) a1 + PTuskAsks.B32 x2 ≤ 1048576 := by
    have z := Opn.small_le hkk
    simp only [List.append_nil, List.cons_append, List.nil_append, Rows.uptoBulkAll, Rows.uptoBulk] at z
    try dsimp only
    omega
  clear hA0 hval0 hsz0 hsz
  obtain ⟨kq, hp⟩ := Pure.TuskAsks x0 a1 x2 hg0 w1 hg2 hN
  refine (PTuskAsks.Fz.calls (k := kq) (a0_0 := x0.f0) (a0_1 := x0.f1) (A0_2 := A0_2) (c0_2 := c0_2) (l0_2 := x0.f2) (hr0_2 := hr0_2) (hc0_2 := hl0_2) (a1 := a1) (a2_0 := x2.f0) (a2_1 := x2.f1.f0) (a2_2 := x2.f1.f1) (A2_3 := A2_3) (c2_3 := c2_3) (l2_3 := x2.f1.f2) (hr2_3 := hr2_3) (hc2_3 := hl2_3) (A2_4 := A2_4) (c2_4 := c2_4) (l2_4 := x2.f1.f3) (hr2_4 := hr2_4) (hc2_4 := hl2_4) (a2_5 := x2.f1.f4.f0) (a2_6 := x2.f1.f4.f1) (r := true) (hr_ := rfl) (w := W) (h := hp)).mono fun e W' ⟨he, bel0⟩ => ?_
  have bel : Below W.heap.size W W' := bel0
  subst he
  exact ⟨_, rfl, _, _, _, [], _, [], hW', trodAll_mk1 (shut_bool Tryz.underlying4 _), (trodAll_cons_mk (Below.trod laidOut (by kernel_rfl) (of_decide_eq_true (by kernel_rfl)) k0 bel lt0) (trodAll_cons_mk (shut_int Tryz.underlying3 w1) (trodAll_cons_mk (Below.trod laidOut (by kernel_rfl) (of_decide_eq_true (by kernel_rfl)) k2 bel lt2) trodAll_mk0))), rfl, bel.frame _, fun h => by cases h⟩
set_option maxRecDepth 100000 in
theorem lifted (os : Os) (started : os.Started) (H : Type) (enc : TypeId × Value → H) (F : Stop.Interp) :
    ReturnsInHanded {} Tryz.checked os 3 .any ((Rows.OpenSpec.upto Rows.tuskAsksSpec).pre6 enc Tryz.prog Tryz.f3 Rows.tuskAsksUptoRow.domain false) (((Rows.OpenSpec.upto Rows.tuskAsksSpec).at F).post enc Tryz.prog Tryz.f3 false true false false) := by
  refine returnsInHanded_of_cond_sized (C := Tryz.checked) (s := (Rows.OpenSpec.upto Rows.tuskAsksSpec)) (k := Rows.uptoSmall) rfl own started (by kernel_rfl) Tryz.func3
    (OpenSpec.witness (enc := enc) (C := Tryz.checked) (s := (Rows.OpenSpec.upto Rows.tuskAsksSpec)) (k := Rows.uptoSmall) rfl false ⟨#[], #[.agg #[.int .i64 0, .int .i64 0, .slice none 0 0], .int .i64 0, .agg #[.string ByteArray.empty, .int .i64 0, .int .i64 0, .slice none 0 0, .slice none 0 0, .int .i64 0, .int .i64 0]], []⟩ 8 (by kernel_rfl) (by kernel_rfl) (by kernel_rfl)
      (x := ([.agg [.lit (.int .i64 0), .lit (.int .i64 0), .nil], .lit (.int .i64 0), .agg [.lit (.string []), .agg [.lit (.int .i64 0), .lit (.int .i64 0), .nil, .nil, .agg [.lit (.int .i64 0), .lit (.int .i64 0)]]]], [], [])) (by kernel_rfl) rfl (by kernel_rfl)) ?_
  intro W base args ds gs before hval hW _ hkk hsz _
  exact contract H enc W base args ds gs before hval hW hkk hsz
theorem closed : joinedFacts Tryz.prog 3 Tryz.f3 (Rows.OpenSpec.upto Rows.tuskAsksSpec).bare Rows.tuskAsksUptoRow = true := by
  rw [joinedFacts, Ini.may, Ini.lifts, Ini.make]
  kernel_rfl
theorem over : Rows.tuskAsksUptoRow.holds Tryz.pinned (Rows.OpenSpec.upto Rows.tuskAsksSpec) :=
  OpenClaim.holds_of_cond 3 Tryz.f3 rfl rfl rfl rfl rfl rfl rfl ⟨rfl, rfl, rfl, rfl, rfl⟩ rfl rfl rfl rfl rfl (by kernel_rfl) Tryz.func3 closed
    (of_decide_eq_true (by kernel_rfl)) (by unfold Func.isWrapper; first | (rw [if_pos (by decide +kernel)]; kernel_rfl) | (rw [if_neg (by decide +kernel)]; exact ⟨rfl, rfl⟩))
    (fun os started H enc _ F => lifted os started H enc F)
theorem proved : Rows.TuskAsksUptoSaid := over
#print axioms proved
end Go.Proofs.YtopijobdblfhoaaGreat.tuskAsks
namespace Go.Proofs.YtopijobdblfhoaaGreat
/-- The row, under a short name, for the claim. -/
theorem tuskAsks_holds : Rows.TuskAsksUptoSaid := tuskAsks.proved
end Go.Proofs.YtopijobdblfhoaaGreat
