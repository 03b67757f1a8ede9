import Derived.Test.YtopijobdblfhoaaGreatVTuskChainsDp
set_option linter.unusedVariables false
/- Trimmed by a program. By an AI agent. -/
namespace Go.Proofs.YtopijobdblfhoaaGreat.Si
open Go.RowKit Go.Lib Go.Proofs.YtopijobdblfhoaaGreatW.PrintWords Go.Proofs.YtopijobdblfhoaaGreatW.PrintLast Go.Proofs.YtopijobdblfhoaaGreatW.PrintMore
def roundX (xs : List DX) (r : Int) : List DX := xs.filter (fun x => x.ro == r)
def firstX (xs : List DX) (dg : ByteArray) : Option DX := xs.find? (fun x => x.d.toList == dg.toList)
def innX (xs : List DX) (dg : ByteArray) : Option (Option (List (ByteArray × Int))) := match firstX xs dg with
 | none => some none
 | some t => (downO (roundX xs) 70 t.ro).map fun rl => some (pastS t.d t.ro (roundX xs) rl).1
def okX (xs : List DX) : Bool := decide (xs.length ≤ 1073741824) && xs.all (fun x => decide (x.d.size ≤ 140737488351232) && x.ps.all (fun p => decide (p.size ≤ 140737488351232)) && (Lit.int .i64 x.ro).wf) && decide ((xs.map (fun x => x.ps.length)).sum ≤ 1099511627776)
theorem okX_iff (xs : List DX) : okX xs = true ↔ xs.length ≤ 1073741824 ∧ (∀ x ∈ xs, x.d.size ≤ 140737488351232 ∧ (∀ p ∈ x.ps, p.size ≤ 140737488351232) ∧ (Lit.int .i64 x.ro).wf = true) ∧ (xs.map (fun x => x.ps.length)).sum ≤ 1099511627776 := by
 unfold okX; simp only [Bool.and_eq_true, decide_eq_true_eq, List.all_eq_true, and_assoc]
theorem Qge (f : DX → Bool) : ∀ xs : List DX, ((xs.filter f).map (fun x => x.ps.length)).sum ≤ (xs.map (fun x => x.ps.length)).sum
 | [] => Nat.le_refl _
 | x :: r => by
  have ih := Qge f r; rw [List.filter_cons]; split
  ·
   simp only [List.map_cons, List.sum_cons]; omega
  ·
   simp only [List.map_cons, List.sum_cons]; omega
theorem Qic (rnd : Int → List DX) : ∀ (m : Nat) (r : Int) (l : List Int), downO rnd m r = some l → l.length ≤ m
 | 0, _, _, h => by simp [downO] at h
 | m + 1, r, l, h => by
  rw [downO] at h; split at h
  ·
   obtain rfl := Option.some.inj h; simp
  ·
   obtain ⟨q, hq, rfl⟩ := Option.map_eq_some_iff.1 h; have := Qic rnd m _ q hq; simp; omega
theorem past_c (A : Option Addr) (c rn : Nat) (nn low : Int) (t : ER) (xs : List DX) (w : World) (hok : okX xs = true) (ht : t.d.size ≤ 140737488351232)
  (hRd : ∀ (r : Int) (w1 : World), Below w.heap.size w w1 → Calls Tryz.prog 34 #[.agg #[.int .i64 nn, .int .i64 low, .slice A rn c], .int .i64 r] w1 fun e w' => ∃ A' c' rs', e = .returned (.slice A' (rs' : List ER).length c') ∧ Rowentry w' A' rs' ∧ PEs w' rs' (roundX xs r) ∧ Below w1.heap.size w1 w')
  (rl : List Int) (hx : downO (roundX xs) 70 t.ro = some rl) :
  Calls Tryz.prog 62 #[.agg #[.int .i64 nn, .int .i64 low, .slice A rn c], t.v] w fun e w' => ∃ mi ni D, e = .returned (.map (some mi)) ∧ w.heap.size ≤ mi ∧ w'.ownsMap Tryz.prog 9 (plainElem Tryz.prog 3) mi ni D ∧ Qc6 D (pastS t.d t.ro (roundX xs) rl).1 ∧ Below w.heap.size w w' := by
 obtain ⟨h1, h2, h3⟩ := (okX_iff xs).1 hok
 have hm : ∀ r x, x ∈ roundX xs r → x ∈ xs ∧ x.ro = r := fun r x hx => by
  have := List.mem_filter.1 hx; exact ⟨this.1, by simpa using this.2⟩
 have hl := Qic _ _ _ _ hx
 exact callsIn_wide.1 (past_in A c rn nn low t (roundX xs) xs.length (xs.map (fun x : DX => x.ps.length)).sum w (by unfold maxLen; omega) hRd
  (fun r x hx => ⟨by have := (h2 x (hm r x hx).1).1; unfold maxLen; omega, fun p hp => by have := (h2 x (hm r x hx).1).2.1 p hp; unfold maxLen; omega⟩)
  (fun r x hx => by have := (h2 x (hm r x hx).1).2.2; rwa [(hm r x hx).2] at this) (fun r => List.length_filter_le _ _) (fun r => Qge _ _) (by omega) 70 rl hx
  (Nat.lt_of_le_of_lt (Nat.mul_le_mul (Nat.succ_le_succ hl) h1) (by decide)))
end Go.Proofs.YtopijobdblfhoaaGreat.Si
