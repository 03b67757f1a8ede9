/- Proved: the statement ShaBlocksSaid: the law selvedge/selvedgelaw02.ShaBlocks answers true for every argument that its row allows. Conditions: those of the row, no other. By an AI agent. -/
import Derived.Test.YtefdokolbdnjnaaRows
import Derived.Test.YtefdokolbdnjnaaIni
import Derived.Test.YtefdokolbdnjnaaBl
import Derived.Test.YtefdokolbdnjnaaOpn
import Derived.WalkKit
import Derived.ProofKit
import Derived.OpenShut
import Derived.ShutString
import Derived.ChangeOld
import Derived.Below
import Derived.SizedLaws
namespace Go.Proofs.Ytefdokolbdnjnaa.shaBlocks
open Go.ChangeShapes Go.WideShapes Go.ChangeAt Go.RowKit
open Go.ChangeMaps (open_string shut_string)
open Go.Proofs.Ytefdokolbdnjnaa.Sm Go.Proofs.Ytefdokolbdnjnaa.Sa
set_option linter.unusedVariables false
set_option linter.unusedSimpArgs false
theorem own : ownKnob Try.prog.godebug = none := by kernel_rfl
theorem laidOut : laidOutB Try.prog = true := by kernel_rfl
theorem list8 (l : List Value) (h : l.length = 8) : ∃ a b c d e f g k, l = [a, b, c, d, e, f, g, k] := by
  match l, h with
  | [a, b, c, d, e, f, g, k], _ => exact ⟨a, b, c, d, e, f, g, k, rfl⟩
set_option maxRecDepth 100000 in
/-- A row of eight words, opened. -/
theorem open8 {H : Type} {enc : TypeId × Value → H} {W : World} {base b0 : Nat} {r : Reach} {sp : Nat → Bool} {hd : Bool} {v : Value} {d : DataW H} {ps : List MemPlace}
    (hv : Value.okWide Try.prog W r b0 26 v) (h : DataW.Trod enc Try.prog W base sp hd 26 v d ps) : ∃ s : St, s.U ∧ v = .agg (cellsU s.list) := by
  obtain ⟨cs, rfl, hsz, _⟩ : ∃ cs, v = .agg cs ∧ cs.size = Try.prog.cellsOf 26 ∧ Row.okWide Try.prog W r b0 26 cs := by
    simpa [Value.okWide, Try.underlying26] using hv
  have c8 : Try.prog.cellsOf 26 = 8 := by kernel_rfl
  have c1 : Try.prog.cellsOf 23 = 1 := by kernel_rfl
  rw [c8] at hsz
  obtain ⟨l⟩ := cs
  obtain ⟨n, hf⟩ := h
  obtain ⟨xs, m, _, _, _, hl, hel⟩ := DataW.trod_array Try.underlying26 hf
  have key : ∀ i, i < 8 → ∃ n : Int, (l.drop i).take 1 = [.int .u32 n] ∧ Sm.U n := by
    intro i hi
    have h1 := hel i hi
    rw [c1, Nat.mul_one, List.getElem?_eq_getElem (by omega)] at h1
    obtain ⟨n, e, _, hw⟩ := DataW.trod_int Try.underlying23 h1
    have hb := bounds_u32 hw
    exact ⟨n, e, hb.1, by omega⟩
  obtain ⟨x0, x1, x2, x3, x4, x5, x6, x7, rfl⟩ := list8 l hsz
  obtain ⟨n0, e0, u0⟩ := key 0 (by omega)
  obtain ⟨n1, e1, u1⟩ := key 1 (by omega)
  obtain ⟨n2, e2, u2⟩ := key 2 (by omega)
  obtain ⟨n3, e3, u3⟩ := key 3 (by omega)
  obtain ⟨n4, e4, u4⟩ := key 4 (by omega)
  obtain ⟨n5, e5, u5⟩ := key 5 (by omega)
  obtain ⟨n6, e6, u6⟩ := key 6 (by omega)
  obtain ⟨n7, e7, u7⟩ := key 7 (by omega)
  simp only [List.drop_zero, List.drop_succ_cons, List.take_succ_cons, List.take_zero, List.cons.injEq, and_true] at e0 e1 e2 e3 e4 e5 e6 e7
  subst e0 e1 e2 e3 e4 e5 e6 e7
  refine ⟨⟨n0, n1, n2, n3, n4, n5, n6, n7⟩, ?_, rfl⟩
  intro x hx
  simp only [St.list, List.mem_cons, List.not_mem_nil, or_false] at hx
  rcases hx with rfl | rfl | rfl | rfl | rfl | rfl | rfl | rfl <;> assumption
set_option maxRecDepth 100000 in
set_option maxHeartbeats 1000000 in
theorem lifted (os : Os) (started : os.Started) (H : Type) (enc : TypeId × Value → H) :
    ReturnsInHanded {} Try.checked os 9 .any (Rows.shaBlocksSpec.pre6 enc Try.prog Try.f9 Rows.shaBlocksRow.domain false) (Rows.shaBlocksSpec.post enc Try.prog Try.f9 false true false false) := by
  refine returnsInHanded_of_change_sized (C := Try.checked) own started (by kernel_rfl) Try.func9
    (ChangeSpec.witness6 (enc := enc) (C := Try.checked) false ⟨#[], #[.agg #[.int .u32 0, .int .u32 0, .int .u32 0, .int .u32 0, .int .u32 0, .int .u32 0, .int .u32 0, .int .u32 0], .string ByteArray.empty], []⟩ 8 (by kernel_rfl) (by kernel_rfl) (by kernel_rfl) (by kernel_rfl)) ?_
  intro W base args ds gs before hval0 hW hcnd hsz0 _
  have hval : ∀ (j : Nat) t v, Try.f9.params[j]? = some t → args[j]? = some v → Value.okWide Try.prog W .any base t v := hval0
  have hW' := hW
  obtain ⟨p, q, hA0, hV, rfl, hfz, hnd⟩ := hW
  have hA : DataW.TrodAll enc Try.prog W 0 (fun _ => true) true Try.f9.params.toList args.toList ds p := hA0
  rw [Try.params9] at hA hval
  obtain ⟨v0, vs0, d0, ds0, p0, q0, hargs, rfl, rfl, h0, r0⟩ := trodAll_cons hA
  obtain ⟨v1, vs1, d1, ds1, p1, q1, rfl, rfl, rfl, h1, r1⟩ := trodAll_cons r0
  obtain ⟨rfl, rfl, rfl⟩ := trodAll_nil r1
  obtain rfl : args = #[v0, v1] := by cases args; simp_all
  obtain ⟨rfl, rfl⟩ := trodVars_none hV
  have k0 := h0
  have lt0 := Opn.lt_of_trod h0
  obtain ⟨s, hU, rfl⟩ := open8 (hval 0 26 v0 rfl rfl) h0
  obtain ⟨a1, rfl, rfl, rfl, y1⟩ := open_string Try.underlying9 (hval 1 9 v1 rfl rfl) h1
  clear hA0 hval0 hsz0
  refine (Sa.lawBlocks_c s hU a1 W).mono fun e W' ⟨he, bel⟩ => ?_
  subst he
  exact ⟨_, rfl, _, _, _, [], _, [], hW', trodAll_mk1 (shut_bool Try.underlying4 _), (trodAll_cons_mk (Below.trod laidOut (by kernel_rfl) (of_decide_eq_true (by kernel_rfl)) k0 bel lt0) (trodAll_cons_mk (shut_string Try.underlying9 y1) trodAll_mk0)), rfl, bel.frame _, fun h => by cases h⟩
theorem closed : joinedFacts Try.prog 9 Try.f9 Rows.shaBlocksSpec Rows.shaBlocksRow = true := by
  rw [joinedFacts, Ini.may, Ini.lifts, Ini.make]
  kernel_rfl
theorem over : Rows.shaBlocksRow.holds Try.pinned (OpenSpec.ofChange Rows.shaBlocksSpec) :=
  OpenClaim.holds_of_wide 9 Try.f9 rfl rfl rfl rfl rfl rfl rfl ⟨rfl, rfl, rfl, rfl, rfl⟩ rfl rfl rfl rfl rfl (by kernel_rfl) Try.func9 closed
    (of_decide_eq_true (by kernel_rfl)) (by unfold Func.isWrapper; first | (rw [if_pos (by decide +kernel)]; kernel_rfl) | (rw [if_neg (by decide +kernel)]; exact ⟨rfl, rfl⟩))
    (fun os started H enc _ => lifted os started H enc)
theorem proved : Rows.ShaBlocksSaid := over
#print axioms proved
end Go.Proofs.Ytefdokolbdnjnaa.shaBlocks
namespace Go.Proofs.Ytefdokolbdnjnaa
/-- The row, under a short name, for the claim. -/
theorem shaBlocks_holds : Rows.ShaBlocksSaid := shaBlocks.proved
end Go.Proofs.Ytefdokolbdnjnaa
