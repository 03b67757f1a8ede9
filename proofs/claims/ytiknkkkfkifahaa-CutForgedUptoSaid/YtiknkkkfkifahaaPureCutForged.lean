/- Proved: the pure half of the law CutForged of chapter 15 (what the walked program computes is 'true'). Conditions: those of its row, no other. -/
import Derived.Test.YtiknkkkfkifahaaArgCutForged
import Derived.Test.YtiknkkkfkifahaaVCutForgedEk
import Derived.IntWalk
import Derived.KernelRfl
namespace Go.Proofs.Ytiknkkkfkifahaa.Pure
open Go.IntWalk Go.RowKit Go.Proofs.Ytiknkkkfkifahaa.PCutForged Go.Proofs.YtiknkkkfkifahaaW.PrintWords Go.Proofs.YtiknkkkfkifahaaW.PrintLast Go.Proofs.Ytiknkkkfkifahaa.Ek
set_option linter.unusedSimpArgs false
set_option linter.unusedVariables false

theorem wr_in (x : Int) : -9223372036854775808 ≤ wrap64 x ∧ wrap64 x ≤ 9223372036854775807 := by
  unfold wrap64
  omega
theorem wfI {n : Int} (h : (Lit.int .i64 n).wf = true) : -9223372036854775808 ≤ n ∧ n ≤ 9223372036854775807 := by
  simp [Lit.wf, IntKind.min, IntKind.max, IntKind.signed, IntKind.bits] at h
  omega
theorem rds {l : List ByteArray} {i : Nat} (h : i < l.length) : rdOf ByteArray.empty l (i : Int) = l[i] := by
  unfold rdOf
  rw [Int.toNat_natCast, List.getD_eq_getElem?_getD, List.getElem?_eq_getElem h]
  rfl
theorem succ_ok {i n : Nat} (h : i < n) (hn : n ≤ 1000000000) : wrap64 ((i : Int) + 1) = ((i + 1 : Nat) : Int) := by rw [wrap64_in _ (by omega)]; omega
def total : List ByteArray → Nat
  | [] => 0
  | t :: l => t.size + total l
theorem total_app (l m : List ByteArray) : total (l ++ m) = total l + total m := by
  induction l with
  | nil => simp [total]
  | cons t l ih => simp only [List.cons_append, total, ih]; omega
theorem len_sizes (l : List ByteArray) : l.length ≤ Sa.sizes l := by
  induction l with
  | nil => exact Nat.le_refl _
  | cons t l ih => simp only [List.length_cons, Sa.sizes]; omega
theorem sizes_app (l m : List ByteArray) : Sa.sizes (l ++ m) = Sa.sizes l + Sa.sizes m := by
  induction l with
  | nil => simp [Sa.sizes]
  | cons t l ih => simp only [List.cons_append, Sa.sizes, ih]; omega
theorem sizes_bulk (l : List ByteArray) : Sa.sizes l ≤ 9 * (l.map (fun s : ByteArray => s.size + 1)).sum := by
  induction l with
  | nil => simp [Sa.sizes]
  | cons t l ih => simp only [List.map_cons, List.sum_cons, Sa.sizes]; omega
def fitC (w : List ByteArray) (t : ByteArray) : Bool := decide (w.length = 0 ∨ (w.length < 6 ∧ total w + t.size ≤ 128))
theorem mn_n (x : Nat) : mn (x : Int) 129 = ((min x 129 : Nat) : Int) := by unfold mn; split <;> omega
theorem size_l (l : List ByteArray) (hl : l.length ≤ 1000000000) : ∀ (m i a : Nat), i + m = l.length → Evk (fun k => cut_size.l0 k ((min a 129 : Nat) : Int) l (l.length : Int) (i : Int)) ((min (a + total (l.drop i)) 129 : Nat) : Int)
  | 0, i, a, hi => by
    refine (Evk.ret _).step fun k => ?_
    rw [cut_size.l0, if_neg (by omega), List.drop_of_length_le (by omega)]
    rfl
  | m + 1, i, a, hi => by
    have hlt : i < l.length := by omega
    have ih := size_l l hl m (i + 1) (a + l[i].size) (by omega)
    rw [List.drop_eq_getElem_cons hlt, total]
    rw [Nat.add_assoc] at ih
    refine ih.step fun k => ?_
    have e : mn (wrap64 (((min a 129 : Nat) : Int) + mn (l[i].size : Int) 129)) 129 = ((min (a + l[i].size) 129 : Nat) : Int) := by
      rw [mn_n, wrap64_in _ (by omega), show ((min a 129 : Nat) : Int) + ((min l[i].size 129 : Nat) : Int) = ((min a 129 + min l[i].size 129 : Nat) : Int) by omega, mn_n]
      omega
    rw [cut_size.l0, if_pos (by omega), if_pos (by omega), if_pos (by omega), rds hlt, succ_ok hlt hl, e]
theorem size_ev (l : List ByteArray) (hl : l.length ≤ 1000000000) : Evk (fun k => cut_size.f k l) ((min (total l) 129 : Nat) : Int) := by
  have h := size_l l hl l.length 0 0 (by omega)
  rw [List.drop_zero, Nat.zero_add] at h
  exact h.of_eq fun k => by unfold cut_size.f; rfl
theorem and_is (w : List ByteArray) (t : ByteArray) (hw : w.length ≤ 1000000000) : cut_and.f w t = some (w ++ [t]) := by
  unfold cut_and.f slices_Clone_string_string.f
  rw [if_pos (by omega), Option.bind_some, if_pos (by omega)]
theorem fits_ev (w : List ByteArray) (t : ByteArray) (hw : w.length ≤ 100000000) : Evk (fun k => cut_Fits.f k w t) (fitC w t) := by
  unfold fitC
  by_cases h0 : w.length = 0
  · rw [decide_eq_true (.inl h0)]
    exact Evk.const fun k => by unfold cut_Fits.f; rw [if_pos (by omega)]
  · by_cases h6 : w.length < 6
    · have h := size_ev (w ++ [t]) (by rw [List.length_append]; simp; omega)
      refine (h.bind (g := fun _ t111 => some (decide (t111 ≤ 128))) (Evk.const fun k => ?_)).of_eq fun k => by unfold cut_Fits.f; rw [if_neg (by omega), if_pos (by omega), and_is w t (by omega), Option.bind_some]
      rw [Option.some.injEq, decide_eq_decide, total_app]
      simp only [total]
      omega
    · rw [decide_eq_false (by omega)]
      exact Evk.const fun k => by unfold cut_Fits.f; rw [if_neg (by omega), if_neg (by omega)]
abbrev St := Int × ByteArray × List ByteArray × List S25
def stepC (s : St) (t : ByteArray) : St := if fitC s.2.2.1 t = true then (s.1, s.2.1, s.2.2.1 ++ [t], s.2.2.2) else (wrap64 (s.1 + 1), Sa.digB s.1 s.2.1 s.2.2.1, [t], s.2.2.2 ++ [(⟨s.1, s.2.1, s.2.2.1⟩ : S25)])
def feedC (s : St) (ts : List ByteArray) : St := ts.foldl stepC s
def flushC (s : Int × ByteArray × List ByteArray) : St := if s.2.2.length = 0 then (s.1, s.2.1, s.2.2, []) else (wrap64 (s.1 + 1), Sa.digB s.1 s.2.1 s.2.2, [], [(⟨s.1, s.2.1, s.2.2⟩ : S25)])
/-- A cutter whose texts aren't too long. -/
def OkC (n : Int) (p : ByteArray) (w : List ByteArray) (b : Nat) : Prop := -9223372036854775808 ≤ n ∧ n ≤ 9223372036854775807 ∧ p.size ≤ 1048576 ∧ Sa.sizes w ≤ b
theorem dig32 (n : Int) (p : ByteArray) (l : List ByteArray) : (Sa.digB n p l).size = 32 := by
  unfold Sa.digB
  exact Sm.sumB_size _
theorem flush_is (n : Int) (p : ByteArray) (w : List ByteArray) (h : OkC n p w 100000000) : cut_Flush.f n p w = some (flushC (n, p, w)) := by
  obtain ⟨h1, h2, h3, h4⟩ := h
  have := len_sizes w
  unfold cut_Flush.f flushC
  by_cases h0 : w.length = 0
  · rw [if_pos h0, if_pos h0]
  · rw [if_neg h0, if_neg h0, if_pos ⟨h1, h2, by omega, by omega⟩]
theorem feed_l (ts : List ByteArray) (hl : ts.length ≤ 1000000000) : ∀ (m i : Nat) (n : Int) (p : ByteArray) (w : List ByteArray) (out : List S25), i + m = ts.length → OkC n p w 100000000 → Sa.sizes w + Sa.sizes (ts.drop i) ≤ 100000000 → out.length + m ≤ 100000000 →
    Evk (fun k => cut_Feed.l0 k out ts (ts.length : Int) (i : Int) n p w) (feedC (n, p, w, out) (ts.drop i))
  | 0, i, n, p, w, out, hi, ho, hs, hn => by
    refine (Evk.ret _).step fun k => ?_
    rw [cut_Feed.l0, if_neg (by omega), List.drop_of_length_le (by omega)]
    rfl
  | m + 1, i, n, p, w, out, hi, ho, hs, hn => by
    have hlt : i < ts.length := by omega
    have c1 : (i : Int) < (ts.length : Int) := by omega
    have c2 : 0 ≤ (i : Int) := by omega
    have hw := len_sizes w
    rw [List.drop_eq_getElem_cons hlt, Sa.sizes] at hs
    rw [List.drop_eq_getElem_cons hlt]
    show Evk _ (feedC (stepC (n, p, w, out) ts[i]) (ts.drop (i + 1)))
    have hf := fits_ev w ts[i] (by omega)
    have hsn : Sa.sizes (w ++ [ts[i]]) = Sa.sizes w + (ts[i].size + 9) := by rw [sizes_app]; rfl
    obtain ⟨o1, o2, o3, o4⟩ := ho
    have hw1 := succ_ok hlt hl
    refine Evk.step (hf.bind (g := fun k t115 => (if t115 = true then ((cut_and.f w ts[i]).bind fun t116 => (cut_Feed.l0 k out ts (ts.length : Int) ((i + 1 : Nat) : Int) n p t116)) else ((cut_Flush.f n p w).bind fun bt119 => (if out.length + bt119.2.2.2.length < 2932031007402 then ((cut_and.f bt119.2.2.1 ts[i]).bind fun t131 => (cut_Feed.l0 k (out ++ bt119.2.2.2) ts (ts.length : Int) ((i + 1 : Nat) : Int) bt119.1 bt119.2.1 t131)) else (none))))) ?_) fun k => by rw [cut_Feed.l0, if_pos c1, if_pos c2, if_pos c1, rds hlt, hw1]
    unfold stepC
    by_cases hfit : fitC w ts[i] = true
    · have ih := feed_l ts hl m (i + 1) n p (w ++ [ts[i]]) out (by omega) ⟨o1, o2, o3, by omega⟩ (by omega) (by omega)
      rw [if_pos hfit]
      exact ih.of_eq fun k => by rw [if_pos hfit, and_is w ts[i] (by omega), Option.bind_some]
    · have hne : ¬ w.length = 0 := fun h => hfit (decide_eq_true (.inl h))
      have hdr : Sa.sizes [ts[i]] = ts[i].size + 9 := rfl
      have ih := feed_l ts hl m (i + 1) (wrap64 (n + 1)) (Sa.digB n p w) [ts[i]] (out ++ [(⟨n, p, w⟩ : S25)]) (by omega) ⟨(wr_in _).1, (wr_in _).2, by rw [dig32]; omega, by omega⟩ (by omega) (by rw [List.length_append]; simp; omega)
      rw [if_neg hfit]
      refine ih.of_eq fun k => ?_
      have e : flushC (n, p, w) = (wrap64 (n + 1), Sa.digB n p w, [], [(⟨n, p, w⟩ : S25)]) := if_neg hne
      rw [if_neg hfit, flush_is n p w ⟨o1, o2, o3, o4⟩, Option.bind_some, e]
      dsimp only
      rw [if_pos (by simp; omega), and_is _ _ (by simp), Option.bind_some]
      rfl
theorem feed_ev (n : Int) (p : ByteArray) (w ts : List ByteArray) (ho : OkC n p w 50000000) (hs : Sa.sizes ts ≤ 50000000) : Evk (fun k => cut_Feed.f k n p w ts) (feedC (n, p, w, []) ts) := by
  have hl := len_sizes ts
  have h := feed_l ts (by omega) ts.length 0 n p w [] (by omega) ⟨ho.1, ho.2.1, ho.2.2.1, by have := ho.2.2.2; omega⟩ (by rw [List.drop_zero]; have := ho.2.2.2; omega) (by simp; omega)
  rw [List.drop_zero] at h
  exact h.of_eq fun k => by unfold cut_Feed.f; rfl
theorem feed_ok : ∀ (ts : List ByteArray) (s : St) (b : Nat), OkC s.1 s.2.1 s.2.2.1 b → OkC (feedC s ts).1 (feedC s ts).2.1 (feedC s ts).2.2.1 (b + Sa.sizes ts) ∧ (feedC s ts).2.2.2.length ≤ s.2.2.2.length + ts.length
  | [], s, b, h => ⟨h, by show s.2.2.2.length ≤ _; omega⟩
  | t :: ts, s, b, h => by
    obtain ⟨h1, h2, h3, h4⟩ := h
    have st : OkC (stepC s t).1 (stepC s t).2.1 (stepC s t).2.2.1 (b + (t.size + 9)) ∧ (stepC s t).2.2.2.length ≤ s.2.2.2.length + 1 := by
      unfold stepC
      by_cases hf : fitC s.2.2.1 t = true
      · rw [if_pos hf]
        exact ⟨⟨h1, h2, h3, by show Sa.sizes (s.2.2.1 ++ [t]) ≤ _; rw [sizes_app]; show _ + (t.size + 9 + 0) ≤ _; omega⟩, by show s.2.2.2.length ≤ _; omega⟩
      · rw [if_neg hf]
        exact ⟨⟨(wr_in _).1, (wr_in _).2, by show (Sa.digB _ _ _).size ≤ _; rw [dig32]; omega, by show t.size + 9 + 0 ≤ _; omega⟩, by simp⟩
    have ih := feed_ok ts (stepC s t) (b + (t.size + 9)) st.1
    refine ⟨?_, ?_⟩
    · have := ih.1
      rw [show b + (t.size + 9) + Sa.sizes ts = b + Sa.sizes (t :: ts) by simp only [Sa.sizes]; omega] at this
      exact this
    · have := ih.2
      have h5 := st.2
      show (feedC (stepC s t) ts).2.2.2.length ≤ _
      rw [List.length_cons]
      omega
theorem shown_ev : Evk (fun k => selvedgelaw15_shown.f k) true := by
  have h := feed_ev 0 (⟨#[]⟩ : ByteArray) [] [(⟨#[49]⟩ : ByteArray), (⟨#[50]⟩ : ByteArray), (⟨#[51]⟩ : ByteArray), (⟨#[52]⟩ : ByteArray), (⟨#[53]⟩ : ByteArray), (⟨#[54]⟩ : ByteArray), (⟨#[55]⟩ : ByteArray)] ⟨by decide, by decide, by decide, by decide⟩ (by decide)
  have e : feedC (0, (⟨#[]⟩ : ByteArray), [], []) [(⟨#[49]⟩ : ByteArray), (⟨#[50]⟩ : ByteArray), (⟨#[51]⟩ : ByteArray), (⟨#[52]⟩ : ByteArray), (⟨#[53]⟩ : ByteArray), (⟨#[54]⟩ : ByteArray), (⟨#[55]⟩ : ByteArray)] = (1, Sa.digB 0 (⟨#[]⟩ : ByteArray) [(⟨#[49]⟩ : ByteArray), (⟨#[50]⟩ : ByteArray), (⟨#[51]⟩ : ByteArray), (⟨#[52]⟩ : ByteArray), (⟨#[53]⟩ : ByteArray), (⟨#[54]⟩ : ByteArray)], [(⟨#[55]⟩ : ByteArray)], [(⟨0, (⟨#[]⟩ : ByteArray), [(⟨#[49]⟩ : ByteArray), (⟨#[50]⟩ : ByteArray), (⟨#[51]⟩ : ByteArray), (⟨#[52]⟩ : ByteArray), (⟨#[53]⟩ : ByteArray), (⟨#[54]⟩ : ByteArray)]⟩ : S25)]) := by
    kernel_rfl
  rw [e] at h
  refine (h.bind (g := fun k bt137 => ((cut_Flush.f bt137.1 bt137.2.1 bt137.2.2.1).bind fun bt146 => (if (bt137.2.2.2.length : Int) = 1 then (if 0 < (bt137.2.2.2.length : Int) then (if (((rd_T25 bt137.2.2.2 0).f2).length : Int) = 6 then (if (bt146.2.2.2.length : Int) = 1 then (if 0 < (bt146.2.2.2.length : Int) then (if (((rd_T25 bt146.2.2.2 0).f2).length : Int) = 1 then (some (bt146.1 == 2)) else (some false)) else (none)) else (some false)) else (some false)) else (none)) else (some false)))) (Evk.const fun k => ?_)).of_eq fun k => by unfold selvedgelaw15_shown.f; rfl
  have e2 := flush_is 1 (Sa.digB 0 (⟨#[]⟩ : ByteArray) [(⟨#[49]⟩ : ByteArray), (⟨#[50]⟩ : ByteArray), (⟨#[51]⟩ : ByteArray), (⟨#[52]⟩ : ByteArray), (⟨#[53]⟩ : ByteArray), (⟨#[54]⟩ : ByteArray)]) [(⟨#[55]⟩ : ByteArray)] ⟨by decide, by decide, by rw [dig32]; decide, by decide⟩
  generalize Sa.digB 0 (⟨#[]⟩ : ByteArray) [(⟨#[49]⟩ : ByteArray), (⟨#[50]⟩ : ByteArray), (⟨#[51]⟩ : ByteArray), (⟨#[52]⟩ : ByteArray), (⟨#[53]⟩ : ByteArray), (⟨#[54]⟩ : ByteArray)] = D at e2
  dsimp only
  have e3 : flushC (1, D, [(⟨#[55]⟩ : ByteArray)]) = (2, Sa.digB 1 D [(⟨#[55]⟩ : ByteArray)], [], [(⟨1, D, [(⟨#[55]⟩ : ByteArray)]⟩ : S25)]) := by
    unfold flushC
    rw [if_neg (by show ¬ (1 = 0); decide)]
    dsimp only
    rw [wrap64_in (1 + 1) (by omega)]
    rfl
  rw [e2, Option.bind_some, e3]
  generalize Sa.digB 1 D [(⟨#[55]⟩ : ByteArray)] = F
  simp [rd_T25]
theorem rdig_is (n : Int) (p : ByteArray) (l : List ByteArray) (k : Nat) (hn : n ≤ 9223372036854775807) (hp : p.size ≤ 1048576) (hl : Sa.sizes l ≤ 100000000) : selvedgeref15_Digest.f (k + 1) n p l = some (Sa.digB n p l) := by
  have h1 := Sa.numB_le n.toNat
  have h2 := Sa.textB_le p
  have h3 := Sa.rowB_le l
  have b1 : p.size ≤ 140737488351232 := by omega
  have b2 : Sa.sizes l + 9 ≤ 140737488351232 := by omega
  have q1 : 1 + (Sa.numB n.toNat).size ≤ 9223372036854775807 := by omega
  have h0 : (⟨#[107]⟩ : ByteArray).size = 1 := rfl
  have q2 : ((⟨#[107]⟩ : ByteArray) ++ Sa.numB n.toNat).size + (Sa.textB p).size ≤ 9223372036854775807 := by rw [ByteArray.size_append, h0]; omega
  have q3 : (((⟨#[107]⟩ : ByteArray) ++ Sa.numB n.toNat) ++ Sa.textB p).size + (Sa.rowB l).size ≤ 9223372036854775807 := by rw [ByteArray.size_append, ByteArray.size_append, h0]; omega
  have q4 : ((((⟨#[107]⟩ : ByteArray) ++ Sa.numB n.toNat) ++ Sa.textB p) ++ Sa.rowB l).size ≤ 140737488351232 := by rw [ByteArray.size_append, ByteArray.size_append, ByteArray.size_append, h0]; omega
  have hj : ∀ v : Int, 0 ≤ v ∧ v < 18446744073709551616 → v.toNat = n.toNat → selvedgeref15_Digest.j0 (k + 1) v n p l = some (Sa.digB n p l) := by
    intro v hv e
    have r1 : selvedgeref01_Num.f v = some (Sa.numB n.toNat) := by rw [← e]; exact if_pos hv
    have r2 : selvedgeref01_Text.f p = some (Sa.textB p) := if_pos b1
    have r3 : selvedgeref01_Row.f l = some (Sa.rowB l) := if_pos b2
    have r4 : selvedgeref02_Sum.f ((((⟨#[107]⟩ : ByteArray) ++ Sa.numB n.toNat) ++ Sa.textB p) ++ Sa.rowB l) = some (Sa.digB n p l) := if_pos q4
    clear h1 h2 h3 q4 b1 b2 h0
    generalize Sa.digB n p l = D at r4 ⊢
    generalize Sa.numB n.toNat = X1 at r1 r4 q1 q2 q3
    generalize Sa.textB p = X2 at r2 r4 q2 q3
    generalize Sa.rowB l = X3 at r3 r4 q3
    rw [selvedgeref15_Digest.j0, r1, Option.bind_some, if_pos q1, r2, Option.bind_some, if_pos q2, r3, Option.bind_some, if_pos q3, r4, Option.bind_some]
  unfold selvedgeref15_Digest.f
  by_cases h : n > 0
  · have u : IntKind.u64.wrap n = n := u64_wrap_id _ (by omega) (by omega)
    rw [if_pos h, u]
    exact hj n ⟨by omega, by omega⟩ rfl
  · rw [if_neg h]
    exact hj 0 ⟨by decide, by decide⟩ (by omega)
theorem fit_of {l : List S25} (h : ∀ x ∈ l, x.f0 ≤ 9223372036854775807 ∧ x.f1.size ≤ 1048576 ∧ Sa.sizes x.f2 ≤ 100000000) : bkFit l = true := by
  induction l with
  | nil => rfl
  | cons x l ih =>
    obtain ⟨h1, h2, h3⟩ := h x (by simp)
    unfold bkFit
    rw [Bool.and_eq_true, decide_eq_true_iff]
    exact ⟨⟨h1, by omega⟩, ih (fun y hy => h y (by simp [hy]))⟩
def flatC (out : List S25) : List ByteArray := out.flatMap fun x => x.f2
def nxt : Int → ByteArray → List S25 → Option (Int × ByteArray)
  | n, p, [] => some (n, p)
  | n, p, b :: l => if b.f0 = n ∧ b.f1 = p then nxt (wrap64 (n + 1)) (Sa.digB b.f0 b.f1 b.f2) l else none
theorem nxt_snoc : ∀ (l : List S25) (n : Int) (p : ByteArray) (n1 : Int) (p1 : ByteArray) (w : List ByteArray), nxt n p l = some (n1, p1) → nxt n p (l ++ [(⟨n1, p1, w⟩ : S25)]) = some (wrap64 (n1 + 1), Sa.digB n1 p1 w)
  | [], n, p, n1, p1, w, h => by
    obtain ⟨rfl, rfl⟩ := Prod.mk.inj (Option.some.inj h)
    show (if n = n ∧ p = p then nxt (wrap64 (n + 1)) (Sa.digB n p w) [] else none) = _
    rw [if_pos ⟨rfl, rfl⟩]
    rfl
  | b :: l, n, p, n1, p1, w, h => by
    unfold nxt at h
    show (if b.f0 = n ∧ b.f1 = p then nxt (wrap64 (n + 1)) (Sa.digB b.f0 b.f1 b.f2) (l ++ [(⟨n1, p1, w⟩ : S25)]) else none) = _
    by_cases hc : b.f0 = n ∧ b.f1 = p
    · rw [if_pos hc] at h ⊢
      exact nxt_snoc l _ _ n1 p1 w h
    · rw [if_neg hc] at h; cases h
theorem ch_nxt : ∀ (l : List S25) (n : Int) (p : ByteArray) (s : Int × ByteArray), nxt n p l = some s → Sa.chB n p (bkOf l) = true
  | [], _, _, _, _ => rfl
  | b :: l, n, p, s, h => by
    unfold nxt at h
    by_cases hc : b.f0 = n ∧ b.f1 = p
    · rw [if_pos hc] at h
      show (if b.f0 = n ∧ b.f1.toList = p.toList then Sa.chB (wrap64 (n + 1)) (Sa.digB b.f0 b.f1 b.f2) (bkOf l) else false) = true
      rw [if_pos ⟨hc.1, by rw [hc.2]⟩]
      exact ch_nxt l _ _ s h
    · rw [if_neg hc] at h; cases h
/-- A row that may be a block's. -/
def Row6 (w : List ByteArray) : Prop := w.length ≤ 6 ∧ (1 < w.length → total w ≤ 128)
structure Inv (s : St) (fed : List ByteArray) : Prop where
  i1 : flatC s.2.2.2 ++ s.2.2.1 = fed
  i2 : ∀ b ∈ s.2.2.2, 1 ≤ b.f2.length ∧ Row6 b.f2
  i3 : Row6 s.2.2.1
  i4 : nxt 0 (⟨#[]⟩ : ByteArray) s.2.2.2 = some (s.1, s.2.1)
  i5 : s.1 = (s.2.2.2.length : Int)
  i6 : s.2.1.size ≤ 32
theorem flat_len : ∀ {out : List S25}, (∀ b ∈ out, 1 ≤ b.f2.length ∧ Row6 b.f2) → out.length ≤ (flatC out).length
  | [], _ => Nat.le_refl _
  | b :: l, h => by
    have ih := flat_len (out := l) (fun x hx => h x (by simp [hx]))
    have := (h b (by simp)).1
    show _ ≤ (b.f2 ++ flatC l).length
    rw [List.length_append, List.length_cons]
    omega
theorem Inv.len {s : St} {fed : List ByteArray} (h : Inv s fed) : s.2.2.2.length + s.2.2.1.length ≤ fed.length := by
  have h1 := flat_len h.i2
  have h2 := congrArg List.length h.i1
  rw [List.length_append] at h2
  omega
theorem Inv.sizes {s : St} {fed : List ByteArray} (h : Inv s fed) : Sa.sizes s.2.2.1 ≤ Sa.sizes fed := by
  rw [← h.i1, sizes_app]
  omega
theorem Inv.ok {s : St} {fed : List ByteArray} (h : Inv s fed) (hl : fed.length ≤ 1000000000) : OkC s.1 s.2.1 s.2.2.1 (Sa.sizes fed) := by
  have h1 := h.len
  have h5 := h.i5
  have h6 := h.i6
  exact ⟨by omega, by omega, by omega, h.sizes⟩
theorem inv_cut {n : Int} {p : ByteArray} {w : List ByteArray} {out : List S25} {fed : List ByteArray} (h : Inv (n, p, w, out) fed) (hl : fed.length ≤ 1000000000) (h0 : 1 ≤ w.length) (v : List ByteArray) (hv : Row6 v) : Inv (wrap64 (n + 1), Sa.digB n p w, v, out ++ [(⟨n, p, w⟩ : S25)]) (fed ++ v) := by
  have h5 : n = (out.length : Int) := h.i5
  have hln : out.length + w.length ≤ fed.length := h.len
  refine ⟨?_, ?_, hv, nxt_snoc out _ _ n p w h.i4, ?_, by rw [dig32]; omega⟩
  · show flatC (out ++ [(⟨n, p, w⟩ : S25)]) ++ v = fed ++ v
    have e : flatC (out ++ [(⟨n, p, w⟩ : S25)]) = flatC out ++ w := by
      unfold flatC
      rw [List.flatMap_append]
      simp
    rw [e, show flatC out ++ w = fed from h.i1]
  · intro b hb
    rcases List.mem_append.1 hb with hb | hb
    · exact h.i2 b hb
    · have := List.mem_singleton.1 hb
      subst this
      exact ⟨h0, h.i3⟩
  · show wrap64 (n + 1) = ((out ++ [(⟨n, p, w⟩ : S25)]).length : Int)
    rw [List.length_append, wrap64_in _ (by omega)]
    simp only [List.length_cons, List.length_nil]
    omega
theorem inv_step {s : St} {fed : List ByteArray} (h : Inv s fed) (hl : fed.length ≤ 1000000000) (t : ByteArray) : Inv (stepC s t) (fed ++ [t]) := by
  obtain ⟨n, p, w, out⟩ := s
  unfold stepC
  by_cases hf : fitC w t = true
  · rw [if_pos hf]
    have hf' := of_decide_eq_true hf
    refine ⟨?_, h.i2, ?_, h.i4, h.i5, h.i6⟩
    · show flatC out ++ (w ++ [t]) = fed ++ [t]
      rw [← List.append_assoc, show flatC out ++ w = fed from h.i1]
    · show (w ++ [t]).length ≤ 6 ∧ (1 < (w ++ [t]).length → total (w ++ [t]) ≤ 128)
      rw [List.length_append, total_app]
      simp only [List.length_cons, List.length_nil, total]
      omega
  · rw [if_neg hf]
    have h0 : 1 ≤ w.length := by
      have hne : ¬ w.length = 0 := fun e => hf (decide_eq_true (.inl e))
      omega
    exact inv_cut h hl h0 [t] ⟨by simp, by simp⟩
theorem inv_feed : ∀ (ts : List ByteArray) (s : St) (fed : List ByteArray), Inv s fed → (fed ++ ts).length ≤ 1000000000 → Inv (feedC s ts) (fed ++ ts)
  | [], s, fed, h, _ => by rw [List.append_nil]; exact h
  | t :: ts, s, fed, h, hl => by
    rw [List.length_append, List.length_cons] at hl
    have := inv_feed ts (stepC s t) (fed ++ [t]) (inv_step h (by omega) t) (by simp; omega)
    rw [List.append_assoc] at this
    exact this
def flushO (s : St) : St := ((flushC (s.1, s.2.1, s.2.2.1)).1, (flushC (s.1, s.2.1, s.2.2.1)).2.1, (flushC (s.1, s.2.1, s.2.2.1)).2.2.1, s.2.2.2 ++ (flushC (s.1, s.2.1, s.2.2.1)).2.2.2)
theorem inv_flush {s : St} {fed : List ByteArray} (h : Inv s fed) (hl : fed.length ≤ 1000000000) : Inv (flushO s) fed := by
  obtain ⟨n, p, w, out⟩ := s
  unfold flushO flushC
  dsimp only
  by_cases h0 : w.length = 0
  · rw [if_pos h0]
    dsimp only
    rw [List.append_nil]
    exact h
  · rw [if_neg h0]
    have := inv_cut h hl (by omega) [] ⟨by simp, by simp⟩
    rw [List.append_nil] at this
    exact this
theorem inv_0 : Inv (0, (⟨#[]⟩ : ByteArray), [], []) [] := ⟨rfl, (by intro b hb; cases hb), ⟨by decide, by decide⟩, rfl, rfl, by decide⟩
theorem nxt_small : ∀ (l : List S25) (n0 : Int) (p0 : ByteArray) (s : Int × ByteArray), nxt n0 p0 l = some s → n0 ≤ 9223372036854775807 → p0.size ≤ 32 → ∀ x ∈ l, x.f0 ≤ 9223372036854775807 ∧ x.f1.size ≤ 1048576 := by
  intro l
  induction l with
  | nil => intro n0 p0 s _ _ _ x hx; cases hx
  | cons b l ih =>
    intro n0 p0 s h hn hp x hx
    unfold nxt at h
    by_cases hc : b.f0 = n0 ∧ b.f1 = p0
    · rw [if_pos hc] at h
      rcases List.mem_cons.1 hx with rfl | hx
      · exact ⟨by rw [hc.1]; exact hn, by rw [hc.2]; omega⟩
      · exact ih _ _ s h (wr_in _).2 (by rw [dig32]; omega) x hx
    · rw [if_neg hc] at h; cases h
theorem flat_sizes : ∀ (l : List S25) (x : S25), x ∈ l → Sa.sizes x.f2 ≤ Sa.sizes (flatC l) := by
  intro l
  induction l with
  | nil => intro x hx; cases hx
  | cons b l ih =>
    intro x hx
    have e : flatC (b :: l) = b.f2 ++ flatC l := by unfold flatC; rw [List.flatMap_cons]
    rw [e, sizes_app]
    rcases List.mem_cons.1 hx with rfl | hx
    · omega
    · have := ih x hx; omega
/-- Two blocks that stand one behind the other in a chain. -/
theorem nxt_two : ∀ (A : List S25) (n : Int) (p : ByteArray) (b c : S25) (D : List S25) (s : Int × ByteArray), nxt n p (A ++ b :: c :: D) = some s → nxt n p A = some (b.f0, b.f1) ∧ c.f0 = wrap64 (b.f0 + 1) ∧ c.f1 = Sa.digB b.f0 b.f1 b.f2
  | [], n, p, b, c, D, s, h => by
    rw [List.nil_append] at h
    unfold nxt at h
    by_cases hb : b.f0 = n ∧ b.f1 = p
    · rw [if_pos hb] at h
      unfold nxt at h
      by_cases hc : c.f0 = wrap64 (n + 1) ∧ c.f1 = Sa.digB b.f0 b.f1 b.f2
      · exact ⟨by rw [hb.1, hb.2]; rfl, by rw [hb.1]; exact hc.1, hc.2⟩
      · rw [if_neg hc] at h; cases h
    · rw [if_neg hb] at h; cases h
  | a :: A, n, p, b, c, D, s, h => by
    rw [List.cons_append] at h
    unfold nxt at h
    by_cases ha : a.f0 = n ∧ a.f1 = p
    · rw [if_pos ha] at h
      have ih := nxt_two A _ _ b c D s h
      refine ⟨?_, ih.2⟩
      show (if a.f0 = n ∧ a.f1 = p then nxt (wrap64 (n + 1)) (Sa.digB a.f0 a.f1 a.f2) A else none) = _
      rw [if_pos ha]
      exact ih.1
    · rw [if_neg ha] at h; cases h
theorem ch_app : ∀ (A : List S25) (n : Int) (p : ByteArray) (n1 : Int) (p1 : ByteArray) (L : List S25), nxt n p A = some (n1, p1) → Sa.chB n p (bkOf (A ++ L)) = Sa.chB n1 p1 (bkOf L)
  | [], n, p, n1, p1, L, h => by
    obtain ⟨rfl, rfl⟩ := Prod.mk.inj (Option.some.inj h)
    rfl
  | a :: A, n, p, n1, p1, L, h => by
    unfold nxt at h
    by_cases ha : a.f0 = n ∧ a.f1 = p
    · rw [if_pos ha] at h
      show (if a.f0 = n ∧ a.f1.toList = p.toList then Sa.chB (wrap64 (n + 1)) (Sa.digB a.f0 a.f1 a.f2) (bkOf (A ++ L)) else false) = _
      rw [if_pos ⟨ha.1, by rw [ha.2]⟩]
      exact ch_app A _ _ n1 p1 L h
    · rw [if_neg ha] at h; cases h
theorem ch_drop {A : List S25} {b c : S25} {D : List S25} {n : Int} {p : ByteArray} {s : Int × ByteArray} (h : nxt n p (A ++ b :: c :: D) = some s) : Sa.chB n p (bkOf (A ++ c :: D)) = false := by
  obtain ⟨h1, h2, h3⟩ := nxt_two A n p b c D s h
  rw [ch_app A n p _ _ _ h1]
  show (if c.f0 = b.f0 ∧ c.f1.toList = b.f1.toList then _ else false) = false
  rw [if_neg fun hc => ?_]
  have := h2.symm.trans hc.1
  unfold wrap64 at this
  omega
theorem ch_forge {A : List S25} {b c : S25} {D : List S25} {n : Int} {p : ByteArray} {s : Int × ByteArray} (h : nxt n p (A ++ b :: c :: D) = some s) (w : List ByteArray) (hd : ¬ (Sa.digB b.f0 b.f1 w).toList = (Sa.digB b.f0 b.f1 b.f2).toList) : Sa.chB n p (bkOf (A ++ (⟨b.f0, b.f1, w⟩ : S25) :: c :: D)) = false := by
  obtain ⟨h1, h2, h3⟩ := nxt_two A n p b c D s h
  rw [ch_app A n p _ _ _ h1]
  show (if b.f0 = b.f0 ∧ b.f1.toList = b.f1.toList then (if c.f0 = wrap64 (b.f0 + 1) ∧ c.f1.toList = (Sa.digB b.f0 b.f1 w).toList then _ else false) else false) = false
  rw [if_pos ⟨rfl, rfl⟩, if_neg fun hc => ?_]
  rw [h3] at hc
  exact hd hc.2.symm
theorem chained_is (l : List S25) (n : Int) (p : ByteArray) (hl : l.length ≤ 1000000000) (h : ∀ x ∈ l, x.f0 ≤ 9223372036854775807 ∧ x.f1.size ≤ 1048576 ∧ Sa.sizes x.f2 ≤ 100000000) : cut_Chained.f l n p = some (Sa.chB n p (bkOf l)) := if_pos ⟨by omega, fit_of h⟩
theorem forged_j (out : List S25) (s : Int × ByteArray) (i : Nat) (hi : i + 1 < out.length) (hl : out.length ≤ 100000000) (hn : nxt 0 (⟨#[]⟩ : ByteArray) out = some s) (hs : ∀ x ∈ out, Sa.sizes x.f2 ≤ 50000000) : Evk (fun k => selvedgelaw15_CutForged.j0 k (i : Int) true out false) true := by
  have hall : ∀ x ∈ out, x.f0 ≤ 9223372036854775807 ∧ x.f1.size ≤ 1048576 ∧ Sa.sizes x.f2 ≤ 100000000 := fun x hx => by
    have h1 := nxt_small out 0 _ s hn (by decide) (by decide) x hx
    have h2 := hs x hx
    exact ⟨h1.1, h1.2, by omega⟩
  obtain ⟨A, b, c, D, rfl, rfl⟩ : ∃ A b c D, out = A ++ b :: c :: D ∧ A.length = i := by
    refine ⟨out.take i, out[i], out[i + 1], out.drop (i + 2), ?_, by rw [List.length_take]; omega⟩
    rw [← List.drop_eq_getElem_cons hi, ← List.drop_eq_getElem_cons (by omega), List.take_append_drop]
  have hb := hall b (by simp)
  have hbs := hs b (by simp)
  have lw := len_sizes b.f2
  rw [List.length_append, List.length_cons, List.length_cons] at hi hl
  have c1 := ch_drop hn
  have hx : Sa.sizes (b.f2 ++ [(⟨#[120]⟩ : ByteArray)]) ≤ 100000000 := by
    rw [sizes_app]
    show _ + (1 + 9 + 0) ≤ _
    omega
  have hd1 : cut_Chained.f (A ++ c :: D) 0 (⟨#[]⟩ : ByteArray) = some false := by
    rw [chained_is _ _ _ (by rw [List.length_append, List.length_cons]; omega) (fun x hx => hall x (by simp only [List.mem_append, List.mem_cons] at hx ⊢; rcases hx with h | h | h <;> first | exact .inl h | exact .inr (.inr (.inl h)) | exact .inr (.inr (.inr h)))), c1]
  have hd2 : cut_Chained.f (A ++ (⟨b.f0, b.f1, b.f2 ++ [(⟨#[120]⟩ : ByteArray)]⟩ : S25) :: c :: D) 0 (⟨#[]⟩ : ByteArray) = some (Sa.chB 0 (⟨#[]⟩ : ByteArray) (bkOf (A ++ (⟨b.f0, b.f1, b.f2 ++ [(⟨#[120]⟩ : ByteArray)]⟩ : S25) :: c :: D))) := by
    refine chained_is _ _ _ (by rw [List.length_append, List.length_cons, List.length_cons]; omega) (fun x hx' => ?_)
    simp only [List.mem_append, List.mem_cons] at hx'
    rcases hx' with h | h | h | h
    · exact hall x (by simp [h])
    · subst h; exact ⟨hb.1, hb.2.1, hx⟩
    · exact hall x (by simp [h])
    · exact hall x (by simp [h])
  have hd3 := fun h => ch_forge hn (b.f2 ++ [(⟨#[120]⟩ : ByteArray)]) h
  have g1 := fun k => rdig_is b.f0 b.f1 (b.f2 ++ [(⟨#[120]⟩ : ByteArray)]) k hb.1 hb.2.1 hx
  have g2 := fun k => rdig_is b.f0 b.f1 b.f2 k hb.1 hb.2.1 hb.2.2
  have er : rd_T25 (A ++ b :: c :: D) (A.length : Int) = b := by
    unfold rd_T25
    rw [Int.toNat_natCast, List.getD_eq_getElem?_getD, List.getElem?_append_right (by omega), Nat.sub_self]
    rfl
  have er2 : rd_T25 (A ++ (⟨b.f0, b.f1, b.f2 ++ [(⟨#[120]⟩ : ByteArray)]⟩ : S25) :: c :: D) (A.length : Int) = ⟨b.f0, b.f1, b.f2 ++ [(⟨#[120]⟩ : ByteArray)]⟩ := by
    unfold rd_T25
    rw [Int.toNat_natCast, List.getD_eq_getElem?_getD, List.getElem?_append_right (by omega), Nat.sub_self]
    rfl
  have es : (A ++ b :: c :: D).set A.length (⟨b.f0, b.f1, b.f2 ++ [(⟨#[120]⟩ : ByteArray)]⟩ : S25) = A ++ (⟨b.f0, b.f1, b.f2 ++ [(⟨#[120]⟩ : ByteArray)]⟩ : S25) :: c :: D := by
    rw [List.set_append_right _ _ (by omega), Nat.sub_self]
    rfl
  have et : (A ++ b :: c :: D).take A.length = A := by simp
  have ed : (A ++ b :: c :: D).drop (A.length + 1) = c :: D := by
    rw [← List.drop_drop]
    simp
  have w1 : wrap64 ((A.length : Int) + 1) = ((A.length + 1 : Nat) : Int) := by rw [wrap64_in _ (by omega)]; omega
  have len : (A ++ b :: c :: D).length = A.length + (D.length + 1 + 1) := by rw [List.length_append, List.length_cons, List.length_cons]
  refine ⟨2, fun k hk => ?_⟩
  obtain ⟨k', rfl⟩ : ∃ k', k = k' + 1 + 1 := ⟨k - 2, by omega⟩
  show selvedgelaw15_CutForged.j0 (k' + 1 + 1) (A.length : Int) true (A ++ b :: c :: D) false = _
  have q1 : (([] : List S25)).length + (A ++ b :: c :: D).length < 2932031007402 := by rw [len, List.length_nil]; omega
  have q2 : 0 ≤ (A.length : Int) := by omega
  have q3 : (A.length : Int) < ((A ++ b :: c :: D).length : Int) := by rw [len]; omega
  have q4 : (([] : List ByteArray)).length + b.f2.length < 8796093022208 := by rw [List.length_nil]; omega
  have q5 : b.f2.length < 8796093022208 := by omega
  have q6 : (A.length : Int) ≤ ((A ++ b :: c :: D).length : Int) := by omega
  have q7 : (([] : List S25)).length + A.length < 2932031007402 := by rw [List.length_nil]; omega
  have q8 : 0 ≤ ((A.length + 1 : Nat) : Int) := by omega
  have q9 : ((A.length + 1 : Nat) : Int) ≤ ((A ++ b :: c :: D).length : Int) := by rw [len]; omega
  have q10 : A.length + (c :: D).length < 2932031007402 := by rw [List.length_cons]; omega
  clear hall hs hn c1 hb hbs lw hi hl hx len
  rw [selvedgelaw15_CutForged.j0, if_neg (by decide), Option.bind_some, if_pos q1, Option.bind_some, List.nil_append, Option.bind_some, if_pos q2, if_pos q3, er, if_pos q4, Option.bind_some, List.nil_append, if_pos q5, Int.toNat_natCast, es, Option.bind_some, Option.bind_some, if_pos q6, et, Option.bind_some, if_pos q7, Option.bind_some, List.nil_append, w1, if_pos q8, if_pos q9, Int.toNat_natCast, ed, Option.bind_some, if_pos q10, Option.bind_some, er2, g1, Option.bind_some, if_pos q3, g2, Option.bind_some, if_pos rfl]
  by_cases hd : (Sa.digB b.f0 b.f1 (b.f2 ++ [(⟨#[120]⟩ : ByteArray)])).toList = (Sa.digB b.f0 b.f1 b.f2).toList
  · rw [if_pos hd, hd1, Option.bind_some]
    rfl
  · rw [if_neg hd, hd2, hd3 hd, Option.bind_some, if_neg (by decide), hd1, Option.bind_some]
    rfl
theorem CutForged : selvedgelaw15_CutForged.Pure := by
  intro l a hl ha hB
  simp only at hB
  have hsz := sizes_bulk l
  have hln := len_sizes l
  refine Evk.get (f := fun k => selvedgelaw15_CutForged.f k l a) ?_
  by_cases h : (l.length : Int) > 100
  · exact (shown_ev.bind (g := fun _ t => some t) (Evk.ret _)).of_eq fun k => by unfold selvedgelaw15_CutForged.f; simp only [if_pos h]
  · have fe := feed_ev 0 (⟨#[]⟩ : ByteArray) [] l ⟨by decide, by decide, by decide, by decide⟩ (by omega)
    have hi := inv_feed l (0, (⟨#[]⟩ : ByteArray), [], []) [] inv_0 (by rw [List.nil_append]; omega)
    rw [List.nil_append] at hi
    generalize feedC (0, (⟨#[]⟩ : ByteArray), [], []) l = r at fe hi
    have ok := hi.ok (by omega)
    have hf := inv_flush hi (by omega)
    have hlen := hf.len
    obtain ⟨n1, p1, w1, m1⟩ := r
    dsimp only at ok
    have f1 := flush_is n1 p1 w1 ⟨ok.1, ok.2.1, ok.2.2.1, by have := ok.2.2.2; omega⟩
    unfold flushO at hf hlen
    dsimp only at hf hlen
    generalize flushC (n1, p1, w1) = q at f1 hf hlen
    obtain ⟨n2, p2, w2, m2⟩ := q
    dsimp only at hf hlen
    have e1 : flatC (m1 ++ m2) ++ w2 = l := hf.i1
    have hn : nxt 0 (⟨#[]⟩ : ByteArray) (m1 ++ m2) = some (n2, p2) := hf.i4
    have hs : ∀ x ∈ m1 ++ m2, Sa.sizes x.f2 ≤ 50000000 := fun x hx => by
      have h1 := flat_sizes (m1 ++ m2) x hx
      have h2 : Sa.sizes l = Sa.sizes (flatC (m1 ++ m2)) + Sa.sizes w2 := by rw [← e1, sizes_app]
      omega
    have hol : (m1 ++ m2).length ≤ 1000000 := by omega
    have hch : cut_Chained.f (m1 ++ m2) 0 (⟨#[]⟩ : ByteArray) = some true := by
      rw [chained_is _ _ _ (by omega) (fun x hx => ?_), ch_nxt _ _ _ _ hn]
      have h1 := nxt_small (m1 ++ m2) 0 _ _ hn (by decide) (by decide) x hx
      have h2 := hs x hx
      exact ⟨h1.1, h1.2, by omega⟩
    have hj : ∀ z : Bool, (z = false → 0 ≤ a ∧ a < ((m1 ++ m2).length : Int) - 1) → Evk (fun k => selvedgelaw15_CutForged.j0 k a true (m1 ++ m2) z) true := by
      intro z hz
      cases z with
      | true => exact (Evk.ret _).step fun k => by rw [selvedgelaw15_CutForged.j0, if_pos rfl]
      | false =>
        obtain ⟨i, rfl⟩ : ∃ i : Nat, a = (i : Int) := ⟨a.toNat, by have := hz rfl; omega⟩
        exact forged_j (m1 ++ m2) _ i (by have := hz rfl; omega) (by omega) hn hs
    rw [List.length_append] at hol
    refine (shown_ev.bind (g := fun k t162 => ((cut_Feed.f k 0 (⟨#[]⟩ : ByteArray) ([] : List ByteArray) l).bind fun bt163 => ((cut_Flush.f bt163.1 bt163.2.1 bt163.2.2.1).bind fun bt172 => ((some (([] : List (S25)) : List (S25))).bind fun y181 => (if y181.length + bt163.2.2.2.length < 2932031007402 then ((some (y181 ++ bt163.2.2.2 : List (S25))).bind fun y184 => (if y184.length + bt172.2.2.2.length < 2932031007402 then ((some (y184 ++ bt172.2.2.2 : List (S25))).bind fun y187 => ((cut_Chained.f y187 0 (⟨#[]⟩ : ByteArray)).bind fun t190 => (if t190 = true then (if a < 0 then (selvedgelaw15_CutForged.j0 k a t162 y187 true) else (selvedgelaw15_CutForged.j0 k a t162 y187 (decide (a ≥ (wrap64 ((y187.length : Int) - 1)))))) else (some false)))) else (none))) else (none)))))) ?_).of_eq fun k => by unfold selvedgelaw15_CutForged.f; simp only [if_neg h]
    refine fe.bind (g := fun k bt163 => ((cut_Flush.f bt163.1 bt163.2.1 bt163.2.2.1).bind fun bt172 => ((some (([] : List (S25)) : List (S25))).bind fun y181 => (if y181.length + bt163.2.2.2.length < 2932031007402 then ((some (y181 ++ bt163.2.2.2 : List (S25))).bind fun y184 => (if y184.length + bt172.2.2.2.length < 2932031007402 then ((some (y184 ++ bt172.2.2.2 : List (S25))).bind fun y187 => ((cut_Chained.f y187 0 (⟨#[]⟩ : ByteArray)).bind fun t190 => (if t190 = true then (if a < 0 then (selvedgelaw15_CutForged.j0 k a true y187 true) else (selvedgelaw15_CutForged.j0 k a true y187 (decide (a ≥ (wrap64 ((y187.length : Int) - 1)))))) else (some false)))) else (none))) else (none))))) ?_
    have w3 : wrap64 (((m1 ++ m2).length : Int) - 1) = ((m1 ++ m2).length : Int) - 1 := wrap64_in _ (by rw [List.length_append]; omega)
    by_cases h0 : a < 0
    · refine (hj true (fun x => by cases x)).of_eq fun k => ?_
      dsimp only
      rw [f1, Option.bind_some, Option.bind_some, List.length_nil, if_pos (by omega), Option.bind_some, List.nil_append, if_pos (by dsimp only; omega), Option.bind_some, hch, Option.bind_some, if_pos rfl, if_pos h0]
    · refine (hj (decide (a ≥ (wrap64 (((m1 ++ m2).length : Int) - 1)))) (fun x => by have := of_decide_eq_false x; rw [w3] at this; omega)).of_eq fun k => ?_
      dsimp only
      rw [f1, Option.bind_some, Option.bind_some, List.length_nil, if_pos (by omega), Option.bind_some, List.nil_append, if_pos (by dsimp only; omega), Option.bind_some, hch, Option.bind_some, if_pos rfl, if_neg h0]

end Go.Proofs.Ytiknkkkfkifahaa.Pure
