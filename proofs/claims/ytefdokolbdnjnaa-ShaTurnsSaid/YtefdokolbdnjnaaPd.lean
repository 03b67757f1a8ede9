import Derived.Test.YtefdokolbdnjnaaMx
import Derived.Test.YtefdokolbdnjnaaShelf
import Derived.Lib.Repeat
/-
  sha.Pad walked: a text made longer. By an AI agent.
-/
namespace Go.Proofs.Ytefdokolbdnjnaa.Sa
open Go.Proofs.Ytefdokolbdnjnaa.Sm
open Go.RowKit Go.Proofs.YtefdokolbdnjnaaW.PrintWords Go.Proofs.YtefdokolbdnjnaaW.PrintLast Go.Proofs.YtefdokolbdnjnaaW.PrintMore
set_option linter.unusedVariables false
set_option linter.unusedSimpArgs false

theorem below_drew1 {w W : World} (h : Below w.heap.size w W) : Below w.heap.size w W.drew := below_drew h
def tailL (n k : Nat) : List Int := (List.range 8).map fun i => if i < k then ((n * 8 / 2 ^ (56 - 8 * i) % 256 : Nat) : Int) else 0
def tailC (n k : Nat) : Array Value := (nums .u8 (tailL n k)).toArray
theorem tailC_get (n k i : Nat) (h : i < 8) : ∃ v, (tailC n k)[i]? = some v := by
  have : i < (tailC n k).size := by simp [tailC, nums, tailL]; exact h
  exact ⟨_, Array.getElem?_eq_getElem this⟩
theorem tailC_set (n k : Nat) (hk : k < 8) : (tailC n k).setIfInBounds k (.int .u8 ((n * 8 / 2 ^ (56 - 8 * k) % 256 : Nat) : Int)) = tailC n (k + 1) := by
  unfold tailC
  apply Array.ext'
  simp only [List.setIfInBounds_toArray]
  apply List.ext_getElem?
  intro i
  rw [List.getElem?_set]
  unfold tailL nums
  by_cases hi : i < 8
  · by_cases e : k = i
    · subst e
      rw [if_pos rfl, if_pos (by simpa using hi)]
      simp [List.getElem?_range hi]
    · rw [if_neg e]
      simp only [List.getElem?_map, List.getElem?_range hi, Option.map_some]
      by_cases h1 : i < k
      · rw [if_pos h1, if_pos (by omega)]
      · rw [if_neg h1, if_neg (by omega)]
  · rw [if_neg (by omega)]
    simp [hi]
theorem run_at8b (g : Nat) (n : Nat) (h : n < 8) (z : Int) (hz : z = n) (w : World) : (Instr.indexAt 91 (.pointer (some ⟨g, 0, none⟩)) (.int .i64 z)).run Try.prog w = .ok (.pointer (some ⟨g, n, none⟩)) w := by
  subst hz
  have ha : Try.prog.arrayLen 91 = 8 := by kernel_rfl
  rw [run_indexAt_array w 91 ⟨g, 0, none⟩ .i64 n (by kernel_rfl), ha, if_pos ⟨by omega, by omega⟩]
  have hs : (sizeOf (Try.prog.elem 91)).run Try.prog w = .ok 1 w := by kernel_rfl
  rw [hs]
  simp [Result.andThen, add_plain]
theorem tail_bytes (n : Nat) : tailL n 8 = (lenBytes n).map fun b => ((b.toNat : Nat) : Int) := by
  unfold tailL lenBytes
  rw [List.map_map]
  apply List.map_congr_left
  intro i hi
  have hi' : i < 8 := List.mem_range.1 hi
  rw [if_pos hi']
  simp only [Function.comp, UInt8.toNat_ofNat']
  have e : 2 ^ (56 - 8 * i) = 256 ^ (7 - i) := by
    rw [show 256 = 2 ^ 8 by decide, ← Nat.pow_mul]
    congr 1; omega
  rw [e]
theorem str_bytes (l : List UInt8) : strOfNums (l.map fun b => ((b.toNat : Nat) : Int)) = ⟨l.toArray⟩ := by
  unfold strOfNums
  have e : ((fun n : Int => UInt8.ofNat n.toNat) ∘ fun b : UInt8 => ((b.toNat : Nat) : Int)) = id := by funext b; simp
  rw [List.map_map, e, List.map_id]
theorem rep_c (n : Nat) (hn : n ≤ 63) (R : List UInt8) (hR : R = List.replicate n 0) (w : World) : Calls Try.prog 68 #[.string ⟨#[0]⟩, .int .i64 n] w fun e w' => e = .returned (.string ⟨R.toArray⟩) ∧ Below w.heap.size w w' := by
  have e : Lib.repeatL (ByteArray.mk #[0]).data.toList n = R := by
    rw [hR]
    clear hR hn
    induction n with
    | zero => rfl
    | succ n ih => rw [Lib.repeatL, ih, List.replicate_succ]; rfl
  have c := Try.strings_Repeat ⟨#[0]⟩ n w (by omega) (by show 1 * _ ≤ _; omega)
  rw [e] at c
  exact c
/-- A slice of bytes made a string, where it stands. -/
theorem exec_str {o : Oper} {a : Act} {x : Operand} {A : Option Addr} {n c : Nat} {l : List UInt8} (w : World) (ho : o.op = .convert 93 9 x) (hx : a.eval x = .slice A n c) (h : ReadsInt w .u8 A n (l.map fun b => ((b.toNat : Nat) : Int)) ∧ n = l.length) : (execOp a.eval o).run Try.prog w = .ok (.value (.string ⟨l.toArray⟩)) w := by
  have e := string_of_reads (P := Try.prog) (src := 93) (dst := 9) (c := c) Try.underlying93 Try.underlying5 Try.underlying9 h.1
  rw [str_bytes] at e
  unfold execOp
  simp only [ho, hx, Sem.run_bind, e, Result.andThen_ok]
  rfl
theorem tail_reads {w w' : World} {n : Nat} (h : w'.heap[w.heap.size]? = some (.cells (tailC n 8) 91 (0, 0))) : ReadsInt w' .u8 (some ⟨w.heap.size, 0, none⟩) 8 ((lenBytes n).map fun b => ((b.toNat : Nat) : Int)) ∧ 8 = (lenBytes n).length := by
  rw [← tail_bytes]
  refine ⟨⟨by simp [tailL], by omega, fun _ => ⟨_, rfl, fun i hi => ?_⟩⟩, by simp [lenBytes]⟩
  rw [add_plain]
  refine (blk_cell h i).trans ?_
  simp [tailC, nums, rd, tailL, List.getElem?_range hi, hi]

set_option maxHeartbeats 8000000 in
set_option maxRecDepth 100000 in
theorem pad_c (s : ByteArray) (hs : s.size ≤ 140737488351232) (w : World) :
    Calls Try.prog 29 #[.string s] w fun e w' => e = .returned (.string (padB s)) ∧ Below w.heap.size w w' := by
  go_enter Try.func29, Try.ntmps29
  go_wp2_with fail
  go_loopw [16] (fun i wr => ∃ k : Nat, k ≤ 8 ∧ i = .int .i64 k ∧ wr.heap[w.heap.size]? = some (.cells (tailC s.size k) 91 (0, 0)) ∧ Hid (Below w.heap.size w wr)) (fun i _ => 8 - (intOf i).toNat)
  case atStart => exact ⟨0, Nat.zero_le _, rfl, new_ _ _ rfl, Lib.hid ((Below.refl _ _).alloc (Nat.le_refl _) _)⟩
  case round =>
    obtain ⟨k, hk, rfl, hg, HB⟩ := hrel
    by_cases hlt : k < 8
    · obtain ⟨v, hv⟩ := tailC_get s.size k k hlt
      have c3 : wr.cell? ⟨w.heap.size, k, none⟩ = some v := (blk_cell hg k).trans hv
      have f3 : wr.frozen? ⟨w.heap.size, k, none⟩ = false := blk_frozen hg k
      have r1 := fun w' => run_at8b w.heap.size k hlt (k : Int) rfl w'
      have t1 : (56 - 8 * (k : Int)).toNat = 56 - 8 * k := by omega
      have HG := Lib.hid hg
      clear hv hg
      go_wp2
      go_roundw
      case rel =>
        have e : (((s.size * 8 / 2 ^ (56 - 8 * k) % 256 : Nat)) : Int) = (s.size : Int) * 8 / 2 ^ (56 - 8 * k) % 256 := by simp
        rw [← e]
        exact ⟨k + 1, by omega, by go_num, (blk_set HG.out k _).trans (by rw [tailC_set _ _ hlt]), Lib.hid (below_set HB.out (Nat.le_refl _))⟩
      case measure => simp [intOf]; omega
    · obtain rfl : k = 8 := by omega
      clear hlt hk
      have HG := Aside0.mk (show wr.drew.heap[w.heap.size]? = some (.cells (tailC s.size 8) 91 (0, 0)) from hg)
      replace HB := Aside0.mk HB.out
      clear hg
      have hn : ((119 - s.size % 64) % 64 : Nat) ≤ 63 := by omega
      have en : ((119 : Int) - (s.size : Int) % 64) % 64 = (((119 - s.size % 64) % 64 : Nat) : Int) := by omega
      obtain ⟨R, hR⟩ : ∃ R : List UInt8, R = List.replicate ((119 - s.size % 64) % 64) 0 := ⟨_, rfl⟩
      have hRl : R.length = (119 - s.size % 64) % 64 := by rw [hR]; simp
      have ht : (lenBytes s.size).length = 8 := by simp [lenBytes]
      have a2 : ¬ 9223372036854775807 < s.size + 1 + R.length := by omega
      have a3 : ¬ 9223372036854775807 < s.size + 1 + R.length + (lenBytes s.size).length := by omega
      have HRl := Lib.hid hRl
      have REP := Lib.hid (fun W => rep_c _ hn R hR W)
      have HR := Lib.hid hR
      clear hRl ht hR
      have a1 : ¬ 9223372036854775807 < s.size + 1 := by omega
      go_wp2_with fail
      refine start_ (n := 9) (S := fun w' : World => w'.heap[w.heap.size]? = some (.cells (tailC s.size 8) 91 (0, 0))) (ds := []) #[false, false, false, false, false, false, false, false, false] (by kernel_rfl) rfl rfl HG.out (fun hHeld => ?_)
      replace HG := Aside0.mk hHeld
      replace HB := Aside0.mk (below_drew1 HB.out)
      generalize wr.drew = w1 at hHeld HG HB ⊢
      refine pure_ (i := 0) (N := some 28) (v := ?_) (a' := ?_) #[true, false, false, false, false, false, false, false, false] rfl rfl (by kernel_rfl) (fun _ _ _ h => h) (Or.inl ⟨by rfl, ?_⟩) ?_ ?_
      rotate_left
      · intro w'
        go_simp
        with_reducible rfl
      rotate_left
      · simp only [Act.put, List.setIfInBounds_toArray, List.set_cons_zero, List.set_cons_succ, i64_w, i32_w]
        rfl
      refine pure_ (i := 1) (N := some 29) (v := ?_) (a' := ?_) #[true, true, false, false, false, false, false, false, false] rfl rfl (by kernel_rfl) (fun _ _ _ h => h) (Or.inl ⟨by rfl, ?_⟩) ?_ ?_
      rotate_left
      · intro w'
        go_simp
        with_reducible rfl
      rotate_left
      · simp only [Act.put, List.setIfInBounds_toArray, List.set_cons_zero, List.set_cons_succ, i64_w, i32_w]
        rfl
      refine pure_ (i := 2) (N := some 30) (v := ?_) (a' := ?_) #[true, true, true, false, false, false, false, false, false] rfl rfl (by kernel_rfl) (fun _ _ _ h => h) (Or.inl ⟨by rfl, ?_⟩) ?_ ?_
      rotate_left
      · intro w'
        go_simp
        with_reducible rfl
      rotate_left
      · simp only [Act.put, List.setIfInBounds_toArray, List.set_cons_zero, List.set_cons_succ, i64_w, i32_w]
        rfl
      refine pure_ (i := 5) (N := some 33) (v := ?_) (a' := ?_) #[true, true, true, false, false, true, false, false, false] rfl rfl (by kernel_rfl) (fun _ _ _ h => h) (Or.inl ⟨by rfl, ?_⟩) ?_ ?_
      rotate_left
      · intro w'
        go_simp
        with_reducible rfl
      rotate_left
      · simp only [Act.put, List.setIfInBounds_toArray, List.set_cons_zero, List.set_cons_succ, i64_w, i32_w]
        rfl
      refine take_ (i := 6) (N := some 34) (v := .string ⟨(lenBytes s.size).toArray⟩) (a' := ?_) #[true, true, true, false, false, true, true, false, false] rfl rfl (by kernel_rfl) (fun _ _ _ h => h) (Or.inl ⟨by rfl, ?_⟩) hHeld ?_ ?_
      · rintro w' s0
        exact exec_str _ rfl rfl (tail_reads s0)
      rotate_left
      · simp only [Act.put, List.setIfInBounds_toArray, List.set_cons_zero, List.set_cons_succ, i64_w, i32_w]
        rfl
      refine one_ (i := 3) (N := some 31) #[true, true, true, true, false, true, true, false, false] rfl rfl (by kernel_rfl) (by decide) (fun K hK => ?_)
      refine goes_ Try.func68 (by kernel_rfl) rfl #[.string ⟨#[0]⟩, .int .i64 (((119 - s.size % 64) % 64 : Nat) : Int)] (by rfl) rfl rfl (by (try simp only [List.map_toArray, List.map_cons, List.map_nil]); first | done | rfl) ?_
      refine (REP.out _).mono ?_
      rintro e w2 ⟨rfl, hb⟩
      refine ⟨_, rfl, ?_⟩
      have n0_ := Aside0.mk (blk_below HG.out hb)
      have n2_ := Aside0.mk (below_step HB.out hb)
      clear HG HB hb
      have HG := n0_
      have HB := n2_
      clear n0_ n2_
      refine hK.out _ _ HG.out (fun hHeld => ?_)
      clear hK K
      refine norm_ (a' := ?_) ?_ ?_
      rotate_left
      · show Act.put _ (some 31) _ = _
        simp only [Act.put, List.setIfInBounds_toArray, List.set_cons_zero, List.set_cons_succ, i64_w, i32_w]
        rfl
      refine pure_ (i := 4) (N := some 32) (v := ?_) (a' := ?_) #[true, true, true, true, true, true, true, false, false] rfl rfl (by kernel_rfl) (fun _ _ _ h => h) (Or.inl ⟨by rfl, ?_⟩) ?_ ?_
      rotate_left
      · intro w'
        go_simp
        with_reducible rfl
      rotate_left
      · simp only [Act.put, List.setIfInBounds_toArray, List.set_cons_zero, List.set_cons_succ, i64_w, i32_w]
        rfl
      refine pure_ (i := 7) (N := some 35) (v := ?_) (a' := ?_) #[true, true, true, true, true, true, true, true, false] rfl rfl (by kernel_rfl) (fun _ _ _ h => h) (Or.inl ⟨by rfl, ?_⟩) ?_ ?_
      rotate_left
      · intro w'
        go_simp
        with_reducible rfl
      rotate_left
      · simp only [Act.put, List.setIfInBounds_toArray, List.set_cons_zero, List.set_cons_succ, i64_w, i32_w]
        rfl
      refine pure_ (i := 8) (N := some 2) (v := ?_) (a' := ?_) #[true, true, true, true, true, true, true, true, true] rfl rfl (by kernel_rfl) (fun _ _ _ h => h) (Or.inl ⟨by rfl, ?_⟩) ?_ ?_
      rotate_left
      · intro w'
        go_simp
        with_reducible rfl
      rotate_left
      · simp only [Act.put, List.setIfInBounds_toArray, List.set_cons_zero, List.set_cons_succ, i64_w, i32_w]
        rfl
      refine done_ (by kernel_rfl) ?_
      go_wp2
      go_ret
      refine ⟨?_, HB.out⟩
      show Ending.returned (.string (s ++ ⟨#[128]⟩ ++ ⟨R.toArray⟩ ++ ⟨(lenBytes s.size).toArray⟩)) = _
      rw [HR.out]
      congr 2
      unfold padB padL
      apply ByteArray.ext
      simp
end Go.Proofs.Ytefdokolbdnjnaa.Sa
