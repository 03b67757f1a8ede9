import Derived.Test.YtefdokolbdnjnaaProg
import Derived.Test.YtefdokolbdnjnaaWWords
import Derived.Test.YtefdokolbdnjnaaWLast
import Derived.Test.YtefdokolbdnjnaaWTab
import Derived.WalkKit
import Derived.IntWalk
import Derived.Lib.Hide
import Derived.Deep.WholeRow
import Derived.WalkMore
import Derived.Test.YtefdokolbdnjnaaSm
/-
  sha: constants, and a word turned. By an AI agent.
-/
namespace Go.Proofs.Ytefdokolbdnjnaa.Sa
open Go.Proofs.Ytefdokolbdnjnaa.Sm
open Go.RowKit Go.Proofs.YtefdokolbdnjnaaW.PrintWords Go.Proofs.YtefdokolbdnjnaaW.PrintLast
set_option linter.unusedVariables false
set_option linter.unusedSimpArgs false

def u32s (l : List Int) : Value := .agg (l.map (Value.int .u32)).toArray

/-- A result that is a whole row (an array) in a block. -/
theorem results_row {P : Program} {fn : Func} {a : Tmp} {t : TypeId} (hr : fn.results = #[.cell a t]) {tmps : Array Value} {W : World} {g : Nat} (ha : tmps.getD a undef = .pointer (some ⟨g, 0, none⟩)) {ty : TypeId} {cs : Array Value} {fr : Nat × Nat} {n : Nat} {e : TypeId} (hg : W.heap[g]? = some (.cells cs ty fr))
    (hu : P.underlying t = some (.array n e)) (hi : (P.info? t).map (·.size) = some cs.size) : (results fn tmps).run P W = .ok (.agg cs) W := by
  have h := run_loadVar_row (P := P) W g ty t cs fr _ hg hu rfl hi
  rw [Array.getD_eq_getD_getElem?] at ha
  unfold results
  rw [hr]
  simp [ha, asAddr, h]
set_option maxHeartbeats 4000000 in
set_option maxRecDepth 100000 in
theorem first_c (w : World) : Calls Try.prog 27 #[] w fun e w' => e = .returned (u32s firstL) ∧ Below w.heap.size w w' := by
  go_enter Try.func27, Try.ntmps27
  go_wp2_with fail
  refine bodyPost_ret (v := u32s firstL) ?_ rfl ⟨rfl, (Below.refl _ _).alloc (Nat.le_refl _) _⟩
  simp [results, Try.results27, go_sem, u32s, firstL]
theorem wpList_store_row {P : Program} (w w' : World) {ops : Array Oper} {rest : List Oper} {o : Oper} {a : Act} {Q : Exit → Act → World → Prop} (hg : o.guard = none) (p v : Operand) (t : TypeId) (hop : o.op = Op.store t p v) (pv vv : Value) (hp : a.eval p = pv) (hv : a.eval v = vv)
    (hr : (Instr.storeAt t pv vv).run P w = .ok () w') (h : wpList P ops Q rest (a.put o.dst undef) w') : wpList P ops Q (o :: rest) a w := by
  refine wpList_plain hg fun K' hK' => ?_
  unfold Oper.wp
  simp [execOp, hop, hp, hv, hr, Result.andThen]
  exact hK' _ _ h
set_option maxHeartbeats 8000000 in
set_option maxRecDepth 100000 in
theorem words_c (w : World) : Calls Try.prog 25 #[] w fun e w' => e = .returned (u32s wordsL) ∧ Below w.heap.size w w' := by
  have hst := Lib.hid (run_storeAt_new (P := Try.prog) w 24 #[.int .u32 0, .int .u32 0, .int .u32 0, .int .u32 0, .int .u32 0, .int .u32 0, .int .u32 0, .int .u32 0, .int .u32 0, .int .u32 0, .int .u32 0, .int .u32 0, .int .u32 0, .int .u32 0, .int .u32 0, .int .u32 0, .int .u32 0, .int .u32 0, .int .u32 0, .int .u32 0, .int .u32 0, .int .u32 0, .int .u32 0, .int .u32 0, .int .u32 0, .int .u32 0, .int .u32 0, .int .u32 0, .int .u32 0, .int .u32 0, .int .u32 0, .int .u32 0, .int .u32 0, .int .u32 0, .int .u32 0, .int .u32 0, .int .u32 0, .int .u32 0, .int .u32 0, .int .u32 0, .int .u32 0, .int .u32 0, .int .u32 0, .int .u32 0, .int .u32 0, .int .u32 0, .int .u32 0, .int .u32 0, .int .u32 0, .int .u32 0, .int .u32 0, .int .u32 0, .int .u32 0, .int .u32 0, .int .u32 0, .int .u32 0, .int .u32 0, .int .u32 0, .int .u32 0, .int .u32 0, .int .u32 0, .int .u32 0, .int .u32 0, .int .u32 0] #[.int .u32 1116352408, .int .u32 1899447441, .int .u32 3049323471, .int .u32 3921009573, .int .u32 961987163, .int .u32 1508970993, .int .u32 2453635748, .int .u32 2870763221, .int .u32 3624381080, .int .u32 310598401, .int .u32 607225278, .int .u32 1426881987, .int .u32 1925078388, .int .u32 2162078206, .int .u32 2614888103, .int .u32 3248222580, .int .u32 3835390401, .int .u32 4022224774, .int .u32 264347078, .int .u32 604807628, .int .u32 770255983, .int .u32 1249150122, .int .u32 1555081692, .int .u32 1996064986, .int .u32 2554220882, .int .u32 2821834349, .int .u32 2952996808, .int .u32 3210313671, .int .u32 3336571891, .int .u32 3584528711, .int .u32 113926993, .int .u32 338241895, .int .u32 666307205, .int .u32 773529912, .int .u32 1294757372, .int .u32 1396182291, .int .u32 1695183700, .int .u32 1986661051, .int .u32 2177026350, .int .u32 2456956037, .int .u32 2730485921, .int .u32 2820302411, .int .u32 3259730800, .int .u32 3345764771, .int .u32 3516065817, .int .u32 3600352804, .int .u32 4094571909, .int .u32 275423344, .int .u32 430227734, .int .u32 506948616, .int .u32 659060556, .int .u32 883997877, .int .u32 958139571, .int .u32 1322822218, .int .u32 1537002063, .int .u32 1747873779, .int .u32 1955562222, .int .u32 2024104815, .int .u32 2227730452, .int .u32 2361852424, .int .u32 2428436474, .int .u32 2756734187, .int .u32 3204031479, .int .u32 3329325298] (by kernel_rfl) rfl (by kernel_rfl))
  go_enter Try.func25, Try.ntmps25
  go_wp2_with (first | (refine wpList_store_row _ _ rfl _ _ 24 rfl _ _ rfl rfl hst.out ?_) | go_in)
  refine bodyPost_ret (v := u32s wordsL) (results_row Try.results25 rfl (blk_new _ _) Try.underlying24 (by kernel_rfl)) rfl ⟨rfl, (Below.refl _ _).alloc (Nat.le_refl _) _⟩
theorem and31 (k : Nat) (h1 : 1 ≤ k) (h2 : k ≤ 31) : bits BinOp.and IntKind.u64 (IntKind.u64.wrap (-(k : Int))) 31 = ((32 - k : Nat) : Int) := by
  have h : ∀ k : Fin 32, 1 ≤ k.1 → bits BinOp.and IntKind.u64 (IntKind.u64.wrap (-(k.1 : Int))) 31 = ((32 - k.1 : Nat) : Int) := by decide +kernel
  exact h ⟨k, by omega⟩ h1
set_option maxHeartbeats 4000000 in
theorem rot_c (x : Int) (k : Nat) (h1 : 1 ≤ k) (h2 : k ≤ 31) (w : World) : Calls Try.prog 100 #[.int .u32 x, .int .i64 (-(k : Int))] w fun e w' => e = .returned (.int .u32 (rotI x k)) ∧ w' = w := by
  have hb := and31 k h1 h2
  obtain ⟨m, hm⟩ : ∃ m, m = 32 - k := ⟨_, rfl⟩
  rw [← hm] at hb
  have g1 : ((m : Int)) ≤ 32 := by omega
  have g0 : (0 : Int) ≤ (m : Int) := by omega
  have hw : IntKind.u64.wrap (32 - (m : Int)) = (k : Int) := by unfold IntKind.wrap; simp only [IntKind.signed, IntKind.bits, Bool.false_and, Bool.false_eq_true, if_false]; omega
  have g3 : ((k : Int)) ≤ 32 := by omega
  have g2 : (0 : Int) ≤ (k : Int) := by omega
  have e1 : rotI x k = bits .or .u32 (IntKind.u32.wrap (x * 2 ^ m)) (x / 2 ^ k) := by unfold rotI; rw [hm]
  rw [e1]
  clear e1 hm h1 h2
  go_enter Try.func100, Try.ntmps100
  go_wp2_with fail
  go_ret
  exact ⟨rfl, rfl⟩
set_option maxHeartbeats 4000000 in
theorem turn_c (x : Int) (k : Nat) (h1 : 1 ≤ k) (h2 : k ≤ 31) (w : World) : Calls Try.prog 91 #[.int .u32 x, .int .i64 k] w fun e w' => e = .returned (.int .u32 (rotI x k)) ∧ w' = w := by
  have H := Lib.hid (rot_c x k h1 h2)
  have hw : wrap64 (-(k : Int)) = -(k : Int) := Go.IntWalk.wrap64_in _ (by omega)
  clear h1 h2
  go_enter Try.func91, Try.ntmps91
  go_wp2_with fail
  rw [hw]
  refine (H.out _).mono ?_
  rintro e w1 ⟨rfl, rfl⟩
  go_wp2
  go_ret
  exact ⟨rfl, rfl⟩
end Go.Proofs.Ytefdokolbdnjnaa.Sa
