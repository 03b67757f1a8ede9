import Derived.Test.YtcbfnmabckjijaaVTuskStopsNo
import Derived.Test.YtcbfnmabckjijaaVTuskStopsWWords
import Derived.Test.YtcbfnmabckjijaaVTuskStopsWN
import Derived.Test.YtcbfnmabckjijaaVTuskStopsDp
import Derived.Maps.OwnSet
import Derived.BigQuiet
section
/- Trimmed by a program. By an AI agent. -/
namespace Go.Proofs.Ytcbfnmabckjijaa.Si
open Go.RowKit
set_option linter.unusedVariables false
set_option linter.unusedSimpArgs false
theorem ixL_succ {α : Type} (p : α → Bool) : ∀ (l : List α) (i : Nat), ixL p l (i + 1) = if 0 ≤ ixL p l i then ixL p l i + 1 else ixL p l i
 | [], i => by simp [ixL]
 | x :: r, i => by
  rw [ixL, ixL]
  by_cases h : p x = true
  ·
   rw [if_pos h, if_pos h, if_pos (by omega)]; omega
  ·
   rw [if_neg h, if_neg h, ixL_succ p r (i + 1)]
end Go.Proofs.Ytcbfnmabckjijaa.Si
end
section
/- Trimmed by a program. By an AI agent. -/
namespace Go.Proofs.Ytcbfnmabckjijaa.Si
open Go.RowKit Go.Lib Go.Proofs.YtcbfnmabckjijaaW.PrintWords Go.Proofs.YtcbfnmabckjijaaW.PrintLast Go.Proofs.YtcbfnmabckjijaaW.PrintMore
open Go.Maps (Keyed IsMap)
set_option linter.unusedVariables false
set_option linter.unusedSimpArgs false
theorem zero_int (w : World) : (zeroValue 3).run Try.prog w = .ok (.int .i64 0) w := by kernel_rfl
set_option maxRecDepth 100000 in
theorem look_in {w : World} {b n : Nat} {D : DataW Unit} {inn : List (ByteArray × Int)} (h : w.ownsMap Try.prog 9 (plainElem Try.prog 3) b n D) (hm : MapIn D inn) (s : ByteArray) (hs : s.size ≤ maxLen) :
  (Instr.lookup 95 (.map (some b)) (.string s) true).run Try.prog w = .ok (.tuple #[.int .i64 ((look inn s).getD 0), .bool ((look inn s).isSome)]) w := by
 obtain ⟨v, ps, hrun, hv⟩ := h.look_ok law_str Try.underlying95 (zero_int w) (plainElem_int Try.underlying3 (by rfl)) (key_str hs)
 obtain ⟨c, rfl, hc, _⟩ := plainElem_int_inv Try.underlying3 hv
 have h1 := (hm s).1
 have h2 := (hm s).2
 have h3 := congrArg Prod.fst hc
 rw [h2] at h3
 have h4 : (look inn s).getD 0 = c := by injection h3 with h3; injection h3
 rw [h1] at hrun
 rw [h4]
 exact hrun
end Go.Proofs.Ytcbfnmabckjijaa.Si
end
section
/- Trimmed by a program. By an AI agent. -/
namespace Go.Proofs.Ytcbfnmabckjijaa.Si
open Go.RowKit Go.Lib Go.Proofs.YtcbfnmabckjijaaW.PrintWords Go.Proofs.YtcbfnmabckjijaaW.PrintLast Go.Proofs.YtcbfnmabckjijaaW.PrintMore
set_option linter.unusedVariables false
theorem firstE_cons (p : ER → Bool) (x : ER) (r : List ER) : firstE p (x :: r) = if p x = true then (x, true) else firstE p r := by
 unfold firstE
 rw [ixL]
 by_cases h : p x = true
 ·
  rw [if_pos h, if_pos h]; rfl
 ·
  rw [if_neg h, if_neg h, ixL_succ]
  by_cases h0 : 0 ≤ ixL p r 0
  ·
   rw [if_pos h0, if_pos (by omega), if_pos h0]
   have e : (ixL p r 0 + 1).toNat = (ixL p r 0).toNat + 1 := by omega
   rw [e]
   rfl
  ·
   rw [if_neg h0, if_neg h0, if_neg h0]
def roundX (xs : List DX) (r : Int) : List DX := xs.filter (fun x => x.ro == r)
def firstX (xs : List DX) (dg : ByteArray) : Option DX := xs.find? (fun x => x.d.toList == dg.toList)
def innX (xs : List DX) (dg : ByteArray) : Option (Option (List (ByteArray × Int))) := match firstX xs dg with
 | none => some none
 | some t => (downO (roundX xs) 70 t.ro).map fun rl => some (pastS t.d t.ro (roundX xs) rl).1
def okX (xs : List DX) : Bool := decide (xs.length ≤ 1073741824) && xs.all (fun x => decide (x.d.size ≤ 140737488351232) && x.ps.all (fun p => decide (p.size ≤ 140737488351232)) && (Lit.int .i64 x.ro).wf) && decide ((xs.map (fun x => x.ps.length)).sum ≤ 1099511627776)
theorem okX_iff (xs : List DX) : okX xs = true ↔ xs.length ≤ 1073741824 ∧ (∀ x ∈ xs, x.d.size ≤ 140737488351232 ∧ (∀ p ∈ x.ps, p.size ≤ 140737488351232) ∧ (Lit.int .i64 x.ro).wf = true) ∧ (xs.map (fun x => x.ps.length)).sum ≤ 1099511627776 := by
 unfold okX
 simp only [Bool.and_eq_true, decide_eq_true_eq, List.all_eq_true, and_assoc]
theorem sum_filter (f : DX → Bool) : ∀ xs : List DX, ((xs.filter f).map (fun x => x.ps.length)).sum ≤ (xs.map (fun x => x.ps.length)).sum
 | [] => Nat.le_refl _
 | x :: r => by
  have ih := sum_filter f r
  rw [List.filter_cons]
  split
  ·
   simp only [List.map_cons, List.sum_cons]; omega
  ·
   simp only [List.map_cons, List.sum_cons]; omega
theorem downO_len (rnd : Int → List DX) : ∀ (m : Nat) (r : Int) (l : List Int), downO rnd m r = some l → l.length ≤ m
 | 0, _, _, h => by simp [downO] at h
 | m + 1, r, l, h => by
  rw [downO] at h
  split at h
  ·
   obtain rfl := Option.some.inj h; simp
  ·
   obtain ⟨q, hq, rfl⟩ := Option.map_eq_some_iff.1 h
   have := downO_len rnd m _ q hq
   simp; omega
theorem past_c (A : Option Addr) (c rn : Nat) (nn low : Int) (t : ER) (xs : List DX) (w : World) (hok : okX xs = true) (ht : t.d.size ≤ 140737488351232)
  (hRd : ∀ (r : Int) (w1 : World), Below w.heap.size w w1 → Calls Try.prog 70 #[.agg #[.int .i64 nn, .int .i64 low, .slice A rn c], .int .i64 r] w1 fun e w' => ∃ A' c' rs', e = .returned (.slice A' (rs' : List ER).length c') ∧ Rowentry w' A' rs' ∧ PEs w' rs' (roundX xs r) ∧ Below w1.heap.size w1 w')
  (rl : List Int) (hx : downO (roundX xs) 70 t.ro = some rl) :
  Calls Try.prog 69 #[.agg #[.int .i64 nn, .int .i64 low, .slice A rn c], t.v] w fun e w' => ∃ mi ni D, e = .returned (.map (some mi)) ∧ w.heap.size ≤ mi ∧ w'.ownsMap Try.prog 9 (plainElem Try.prog 3) mi ni D ∧ MapIn D (pastS t.d t.ro (roundX xs) rl).1 ∧ Below w.heap.size w w' := by
 obtain ⟨h1, h2, h3⟩ := (okX_iff xs).1 hok
 have hm : ∀ r x, x ∈ roundX xs r → x ∈ xs ∧ x.ro = r := fun r x hx => by
  have := List.mem_filter.1 hx
  exact ⟨this.1, by simpa using this.2⟩
 have hl := downO_len _ _ _ _ hx
 exact callsIn_wide.1 (past_in A c rn nn low t (roundX xs) xs.length (xs.map (fun x : DX => x.ps.length)).sum w (by unfold maxLen; omega) hRd
  (fun r x hx => ⟨by have := (h2 x (hm r x hx).1).1; unfold maxLen; omega, fun p hp => by have := (h2 x (hm r x hx).1).2.1 p hp; unfold maxLen; omega⟩)
  (fun r x hx => by have := (h2 x (hm r x hx).1).2.2; rwa [(hm r x hx).2] at this) (fun r => List.length_filter_le _ _) (fun r => sum_filter _ _) (by omega) 70 rl hx
  (Nat.lt_of_le_of_lt (Nat.mul_le_mul (Nat.succ_le_succ hl) h1) (by decide)))
end Go.Proofs.Ytcbfnmabckjijaa.Si
end
