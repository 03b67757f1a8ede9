/- Proved: the pure half of the law CutChains of chapter 15 (what the walked program computes is 'true'). Conditions: those of its row, no other. -/
import Derived.Test.YtefdokolbdnjnaaArgCutChains
import Derived.Test.YtefdokolbdnjnaaEk
import Derived.IntWalk
import Derived.KernelRfl
namespace Go.Proofs.Ytefdokolbdnjnaa.Pure
open Go.IntWalk Go.RowKit Go.Proofs.Ytefdokolbdnjnaa.PCutChains Go.Proofs.YtefdokolbdnjnaaW.PrintWords Go.Proofs.YtefdokolbdnjnaaW.PrintLast Go.Proofs.Ytefdokolbdnjnaa.Ek
set_option linter.unusedSimpArgs false
set_option linter.unusedVariables false

theorem wr_in (x : Int) : -9223372036854775808 ≤ wrap64 x ∧ wrap64 x ≤ 9223372036854775807 := by
  unfold wrap64
  omega
theorem wfI {n : Int} (h : (Lit.int .i64 n).wf = true) : -9223372036854775808 ≤ n ∧ n ≤ 9223372036854775807 := by
  simp [Lit.wf, IntKind.min, IntKind.max, IntKind.signed, IntKind.bits] at h
  omega
theorem rds {l : List ByteArray} {i : Nat} (h : i < l.length) : rdOf ByteArray.empty l (i : Int) = l[i] := by
  unfold rdOf
  rw [Int.toNat_natCast, List.getD_eq_getElem?_getD, List.getElem?_eq_getElem h]
  rfl
theorem succ_ok {i n : Nat} (h : i < n) (hn : n ≤ 1000000000) : wrap64 ((i : Int) + 1) = ((i + 1 : Nat) : Int) := by rw [wrap64_in _ (by omega)]; omega
def total : List ByteArray → Nat
  | [] => 0
  | t :: l => t.size + total l
theorem total_app (l m : List ByteArray) : total (l ++ m) = total l + total m := by
  induction l with
  | nil => simp [total]
  | cons t l ih => simp only [List.cons_append, total, ih]; omega
theorem len_sizes (l : List ByteArray) : l.length ≤ Sa.sizes l := by
  induction l with
  | nil => exact Nat.le_refl _
  | cons t l ih => simp only [List.length_cons, Sa.sizes]; omega
theorem sizes_app (l m : List ByteArray) : Sa.sizes (l ++ m) = Sa.sizes l + Sa.sizes m := by
  induction l with
  | nil => simp [Sa.sizes]
  | cons t l ih => simp only [List.cons_append, Sa.sizes, ih]; omega
theorem sizes_bulk (l : List ByteArray) : Sa.sizes l ≤ 9 * (l.map (fun s : ByteArray => s.size + 1)).sum := by
  induction l with
  | nil => simp [Sa.sizes]
  | cons t l ih => simp only [List.map_cons, List.sum_cons, Sa.sizes]; omega
def fitC (w : List ByteArray) (t : ByteArray) : Bool := decide (w.length = 0 ∨ (w.length < 6 ∧ total w + t.size ≤ 128))
theorem mn_n (x : Nat) : mn (x : Int) 129 = ((min x 129 : Nat) : Int) := by unfold mn; split <;> omega
theorem size_l (l : List ByteArray) (hl : l.length ≤ 1000000000) : ∀ (m i a : Nat), i + m = l.length → Evk (fun k => cut_size.l0 k ((min a 129 : Nat) : Int) l (l.length : Int) (i : Int)) ((min (a + total (l.drop i)) 129 : Nat) : Int)
  | 0, i, a, hi => by
    refine (Evk.ret _).step fun k => ?_
    rw [cut_size.l0, if_neg (by omega), List.drop_of_length_le (by omega)]
    rfl
  | m + 1, i, a, hi => by
    have hlt : i < l.length := by omega
    have ih := size_l l hl m (i + 1) (a + l[i].size) (by omega)
    rw [List.drop_eq_getElem_cons hlt, total]
    rw [Nat.add_assoc] at ih
    refine ih.step fun k => ?_
    have e : mn (wrap64 (((min a 129 : Nat) : Int) + mn (l[i].size : Int) 129)) 129 = ((min (a + l[i].size) 129 : Nat) : Int) := by
      rw [mn_n, wrap64_in _ (by omega), show ((min a 129 : Nat) : Int) + ((min l[i].size 129 : Nat) : Int) = ((min a 129 + min l[i].size 129 : Nat) : Int) by omega, mn_n]
      omega
    rw [cut_size.l0, if_pos (by omega), if_pos (by omega), if_pos (by omega), rds hlt, succ_ok hlt hl, e]
theorem size_ev (l : List ByteArray) (hl : l.length ≤ 1000000000) : Evk (fun k => cut_size.f k l) ((min (total l) 129 : Nat) : Int) := by
  have h := size_l l hl l.length 0 0 (by omega)
  rw [List.drop_zero, Nat.zero_add] at h
  exact h.of_eq fun k => by unfold cut_size.f; rfl
theorem and_is (w : List ByteArray) (t : ByteArray) (hw : w.length ≤ 1000000000) : cut_and.f w t = some (w ++ [t]) := by
  unfold cut_and.f slices_Clone_string_string.f
  rw [if_pos (by omega), Option.bind_some, if_pos (by omega)]
theorem fits_ev (w : List ByteArray) (t : ByteArray) (hw : w.length ≤ 100000000) : Evk (fun k => cut_Fits.f k w t) (fitC w t) := by
  unfold fitC
  by_cases h0 : w.length = 0
  · rw [decide_eq_true (.inl h0)]
    exact Evk.const fun k => by unfold cut_Fits.f; rw [if_pos (by omega)]
  · by_cases h6 : w.length < 6
    · have h := size_ev (w ++ [t]) (by rw [List.length_append]; simp; omega)
      refine (h.bind (g := fun _ t111 => some (decide (t111 ≤ 128))) (Evk.const fun k => ?_)).of_eq fun k => by unfold cut_Fits.f; rw [if_neg (by omega), if_pos (by omega), and_is w t (by omega), Option.bind_some]
      rw [Option.some.injEq, decide_eq_decide, total_app]
      simp only [total]
      omega
    · rw [decide_eq_false (by omega)]
      exact Evk.const fun k => by unfold cut_Fits.f; rw [if_neg (by omega), if_neg (by omega)]
abbrev St := Int × ByteArray × List ByteArray × List S40
def stepC (s : St) (t : ByteArray) : St := if fitC s.2.2.1 t = true then (s.1, s.2.1, s.2.2.1 ++ [t], s.2.2.2) else (wrap64 (s.1 + 1), Sa.digB s.1 s.2.1 s.2.2.1, [t], s.2.2.2 ++ [(⟨s.1, s.2.1, s.2.2.1⟩ : S40)])
def feedC (s : St) (ts : List ByteArray) : St := ts.foldl stepC s
def flushC (s : Int × ByteArray × List ByteArray) : St := if s.2.2.length = 0 then (s.1, s.2.1, s.2.2, []) else (wrap64 (s.1 + 1), Sa.digB s.1 s.2.1 s.2.2, [], [(⟨s.1, s.2.1, s.2.2⟩ : S40)])
/-- A cutter whose texts aren't too long. -/
def OkC (n : Int) (p : ByteArray) (w : List ByteArray) (b : Nat) : Prop := -9223372036854775808 ≤ n ∧ n ≤ 9223372036854775807 ∧ p.size ≤ 1048576 ∧ Sa.sizes w ≤ b
theorem dig32 (n : Int) (p : ByteArray) (l : List ByteArray) : (Sa.digB n p l).size = 32 := by
  unfold Sa.digB
  exact Sm.sumB_size _
theorem flush_is (n : Int) (p : ByteArray) (w : List ByteArray) (h : OkC n p w 100000000) : cut_Flush.f n p w = some (flushC (n, p, w)) := by
  obtain ⟨h1, h2, h3, h4⟩ := h
  have := len_sizes w
  unfold cut_Flush.f flushC
  by_cases h0 : w.length = 0
  · rw [if_pos h0, if_pos h0]
  · rw [if_neg h0, if_neg h0, if_pos ⟨h1, h2, by omega, by omega⟩]
theorem feed_l (ts : List ByteArray) (hl : ts.length ≤ 1000000000) : ∀ (m i : Nat) (n : Int) (p : ByteArray) (w : List ByteArray) (out : List S40), i + m = ts.length → OkC n p w 100000000 → Sa.sizes w + Sa.sizes (ts.drop i) ≤ 100000000 → out.length + m ≤ 100000000 →
    Evk (fun k => cut_Feed.l0 k out ts (ts.length : Int) (i : Int) n p w) (feedC (n, p, w, out) (ts.drop i))
  | 0, i, n, p, w, out, hi, ho, hs, hn => by
    refine (Evk.ret _).step fun k => ?_
    rw [cut_Feed.l0, if_neg (by omega), List.drop_of_length_le (by omega)]
    rfl
  | m + 1, i, n, p, w, out, hi, ho, hs, hn => by
    have hlt : i < ts.length := by omega
    have c1 : (i : Int) < (ts.length : Int) := by omega
    have c2 : 0 ≤ (i : Int) := by omega
    have hw := len_sizes w
    rw [List.drop_eq_getElem_cons hlt, Sa.sizes] at hs
    rw [List.drop_eq_getElem_cons hlt]
    show Evk _ (feedC (stepC (n, p, w, out) ts[i]) (ts.drop (i + 1)))
    have hf := fits_ev w ts[i] (by omega)
    have hsn : Sa.sizes (w ++ [ts[i]]) = Sa.sizes w + (ts[i].size + 9) := by rw [sizes_app]; rfl
    obtain ⟨o1, o2, o3, o4⟩ := ho
    have hw1 := succ_ok hlt hl
    refine Evk.step (hf.bind (g := fun k t115 => (if t115 = true then ((cut_and.f w ts[i]).bind fun t116 => (cut_Feed.l0 k out ts (ts.length : Int) ((i + 1 : Nat) : Int) n p t116)) else ((cut_Flush.f n p w).bind fun bt119 => (if out.length + bt119.2.2.2.length < 2932031007402 then ((cut_and.f bt119.2.2.1 ts[i]).bind fun t131 => (cut_Feed.l0 k (out ++ bt119.2.2.2) ts (ts.length : Int) ((i + 1 : Nat) : Int) bt119.1 bt119.2.1 t131)) else (none))))) ?_) fun k => by rw [cut_Feed.l0, if_pos c1, if_pos c2, if_pos c1, rds hlt, hw1]
    unfold stepC
    by_cases hfit : fitC w ts[i] = true
    · have ih := feed_l ts hl m (i + 1) n p (w ++ [ts[i]]) out (by omega) ⟨o1, o2, o3, by omega⟩ (by omega) (by omega)
      rw [if_pos hfit]
      exact ih.of_eq fun k => by rw [if_pos hfit, and_is w ts[i] (by omega), Option.bind_some]
    · have hne : ¬ w.length = 0 := fun h => hfit (decide_eq_true (.inl h))
      have hdr : Sa.sizes [ts[i]] = ts[i].size + 9 := rfl
      have ih := feed_l ts hl m (i + 1) (wrap64 (n + 1)) (Sa.digB n p w) [ts[i]] (out ++ [(⟨n, p, w⟩ : S40)]) (by omega) ⟨(wr_in _).1, (wr_in _).2, by rw [dig32]; omega, by omega⟩ (by omega) (by rw [List.length_append]; simp; omega)
      rw [if_neg hfit]
      refine ih.of_eq fun k => ?_
      have e : flushC (n, p, w) = (wrap64 (n + 1), Sa.digB n p w, [], [(⟨n, p, w⟩ : S40)]) := if_neg hne
      rw [if_neg hfit, flush_is n p w ⟨o1, o2, o3, o4⟩, Option.bind_some, e]
      dsimp only
      rw [if_pos (by simp; omega), and_is _ _ (by simp), Option.bind_some]
      rfl
theorem feed_ev (n : Int) (p : ByteArray) (w ts : List ByteArray) (ho : OkC n p w 50000000) (hs : Sa.sizes ts ≤ 50000000) : Evk (fun k => cut_Feed.f k n p w ts) (feedC (n, p, w, []) ts) := by
  have hl := len_sizes ts
  have h := feed_l ts (by omega) ts.length 0 n p w [] (by omega) ⟨ho.1, ho.2.1, ho.2.2.1, by have := ho.2.2.2; omega⟩ (by rw [List.drop_zero]; have := ho.2.2.2; omega) (by simp; omega)
  rw [List.drop_zero] at h
  exact h.of_eq fun k => by unfold cut_Feed.f; rfl
theorem feed_ok : ∀ (ts : List ByteArray) (s : St) (b : Nat), OkC s.1 s.2.1 s.2.2.1 b → OkC (feedC s ts).1 (feedC s ts).2.1 (feedC s ts).2.2.1 (b + Sa.sizes ts) ∧ (feedC s ts).2.2.2.length ≤ s.2.2.2.length + ts.length
  | [], s, b, h => ⟨h, by show s.2.2.2.length ≤ _; omega⟩
  | t :: ts, s, b, h => by
    obtain ⟨h1, h2, h3, h4⟩ := h
    have st : OkC (stepC s t).1 (stepC s t).2.1 (stepC s t).2.2.1 (b + (t.size + 9)) ∧ (stepC s t).2.2.2.length ≤ s.2.2.2.length + 1 := by
      unfold stepC
      by_cases hf : fitC s.2.2.1 t = true
      · rw [if_pos hf]
        exact ⟨⟨h1, h2, h3, by show Sa.sizes (s.2.2.1 ++ [t]) ≤ _; rw [sizes_app]; show _ + (t.size + 9 + 0) ≤ _; omega⟩, by show s.2.2.2.length ≤ _; omega⟩
      · rw [if_neg hf]
        exact ⟨⟨(wr_in _).1, (wr_in _).2, by show (Sa.digB _ _ _).size ≤ _; rw [dig32]; omega, by show t.size + 9 + 0 ≤ _; omega⟩, by simp⟩
    have ih := feed_ok ts (stepC s t) (b + (t.size + 9)) st.1
    refine ⟨?_, ?_⟩
    · have := ih.1
      rw [show b + (t.size + 9) + Sa.sizes ts = b + Sa.sizes (t :: ts) by simp only [Sa.sizes]; omega] at this
      exact this
    · have := ih.2
      have h5 := st.2
      show (feedC (stepC s t) ts).2.2.2.length ≤ _
      rw [List.length_cons]
      omega
theorem shown_ev : Evk (fun k => selvedgelaw15_shown.f k) true := by
  have h := feed_ev 0 (⟨#[]⟩ : ByteArray) [] [(⟨#[49]⟩ : ByteArray), (⟨#[50]⟩ : ByteArray), (⟨#[51]⟩ : ByteArray), (⟨#[52]⟩ : ByteArray), (⟨#[53]⟩ : ByteArray), (⟨#[54]⟩ : ByteArray), (⟨#[55]⟩ : ByteArray)] ⟨by decide, by decide, by decide, by decide⟩ (by decide)
  have e : feedC (0, (⟨#[]⟩ : ByteArray), [], []) [(⟨#[49]⟩ : ByteArray), (⟨#[50]⟩ : ByteArray), (⟨#[51]⟩ : ByteArray), (⟨#[52]⟩ : ByteArray), (⟨#[53]⟩ : ByteArray), (⟨#[54]⟩ : ByteArray), (⟨#[55]⟩ : ByteArray)] = (1, Sa.digB 0 (⟨#[]⟩ : ByteArray) [(⟨#[49]⟩ : ByteArray), (⟨#[50]⟩ : ByteArray), (⟨#[51]⟩ : ByteArray), (⟨#[52]⟩ : ByteArray), (⟨#[53]⟩ : ByteArray), (⟨#[54]⟩ : ByteArray)], [(⟨#[55]⟩ : ByteArray)], [(⟨0, (⟨#[]⟩ : ByteArray), [(⟨#[49]⟩ : ByteArray), (⟨#[50]⟩ : ByteArray), (⟨#[51]⟩ : ByteArray), (⟨#[52]⟩ : ByteArray), (⟨#[53]⟩ : ByteArray), (⟨#[54]⟩ : ByteArray)]⟩ : S40)]) := by
    kernel_rfl
  rw [e] at h
  refine (h.bind (g := fun k bt137 => ((cut_Flush.f bt137.1 bt137.2.1 bt137.2.2.1).bind fun bt146 => (if (bt137.2.2.2.length : Int) = 1 then (if 0 < (bt137.2.2.2.length : Int) then (if (((rd_T40 bt137.2.2.2 0).f2).length : Int) = 6 then (if (bt146.2.2.2.length : Int) = 1 then (if 0 < (bt146.2.2.2.length : Int) then (if (((rd_T40 bt146.2.2.2 0).f2).length : Int) = 1 then (some (bt146.1 == 2)) else (some false)) else (none)) else (some false)) else (some false)) else (none)) else (some false)))) (Evk.const fun k => ?_)).of_eq fun k => by unfold selvedgelaw15_shown.f; rfl
  have e2 := flush_is 1 (Sa.digB 0 (⟨#[]⟩ : ByteArray) [(⟨#[49]⟩ : ByteArray), (⟨#[50]⟩ : ByteArray), (⟨#[51]⟩ : ByteArray), (⟨#[52]⟩ : ByteArray), (⟨#[53]⟩ : ByteArray), (⟨#[54]⟩ : ByteArray)]) [(⟨#[55]⟩ : ByteArray)] ⟨by decide, by decide, by rw [dig32]; decide, by decide⟩
  generalize Sa.digB 0 (⟨#[]⟩ : ByteArray) [(⟨#[49]⟩ : ByteArray), (⟨#[50]⟩ : ByteArray), (⟨#[51]⟩ : ByteArray), (⟨#[52]⟩ : ByteArray), (⟨#[53]⟩ : ByteArray), (⟨#[54]⟩ : ByteArray)] = D at e2
  dsimp only
  have e3 : flushC (1, D, [(⟨#[55]⟩ : ByteArray)]) = (2, Sa.digB 1 D [(⟨#[55]⟩ : ByteArray)], [], [(⟨1, D, [(⟨#[55]⟩ : ByteArray)]⟩ : S40)]) := by
    unfold flushC
    rw [if_neg (by show ¬ (1 = 0); decide)]
    dsimp only
    rw [wrap64_in (1 + 1) (by omega)]
    rfl
  rw [e2, Option.bind_some, e3]
  generalize Sa.digB 1 D [(⟨#[55]⟩ : ByteArray)] = F
  simp [rd_T40]
theorem rdig_is (n : Int) (p : ByteArray) (l : List ByteArray) (k : Nat) (hn : n ≤ 9223372036854775807) (hp : p.size ≤ 1048576) (hl : Sa.sizes l ≤ 100000000) : selvedgeref15_Digest.f (k + 1) n p l = some (Sa.digB n p l) := by
  have h1 := Sa.numB_le n.toNat
  have h2 := Sa.textB_le p
  have h3 := Sa.rowB_le l
  have b1 : p.size ≤ 140737488351232 := by omega
  have b2 : Sa.sizes l + 9 ≤ 140737488351232 := by omega
  have q1 : 1 + (Sa.numB n.toNat).size ≤ 9223372036854775807 := by omega
  have h0 : (⟨#[107]⟩ : ByteArray).size = 1 := rfl
  have q2 : ((⟨#[107]⟩ : ByteArray) ++ Sa.numB n.toNat).size + (Sa.textB p).size ≤ 9223372036854775807 := by rw [ByteArray.size_append, h0]; omega
  have q3 : (((⟨#[107]⟩ : ByteArray) ++ Sa.numB n.toNat) ++ Sa.textB p).size + (Sa.rowB l).size ≤ 9223372036854775807 := by rw [ByteArray.size_append, ByteArray.size_append, h0]; omega
  have q4 : ((((⟨#[107]⟩ : ByteArray) ++ Sa.numB n.toNat) ++ Sa.textB p) ++ Sa.rowB l).size ≤ 140737488351232 := by rw [ByteArray.size_append, ByteArray.size_append, ByteArray.size_append, h0]; omega
  have hj : ∀ v : Int, 0 ≤ v ∧ v < 18446744073709551616 → v.toNat = n.toNat → selvedgeref15_Digest.j0 (k + 1) v n p l = some (Sa.digB n p l) := by
    intro v hv e
    have r1 : selvedgeref01_Num.f v = some (Sa.numB n.toNat) := by rw [← e]; exact if_pos hv
    have r2 : selvedgeref01_Text.f p = some (Sa.textB p) := if_pos b1
    have r3 : selvedgeref01_Row.f l = some (Sa.rowB l) := if_pos b2
    have r4 : selvedgeref02_Sum.f ((((⟨#[107]⟩ : ByteArray) ++ Sa.numB n.toNat) ++ Sa.textB p) ++ Sa.rowB l) = some (Sa.digB n p l) := if_pos q4
    clear h1 h2 h3 q4 b1 b2 h0
    generalize Sa.digB n p l = D at r4 ⊢
    generalize Sa.numB n.toNat = X1 at r1 r4 q1 q2 q3
    generalize Sa.textB p = X2 at r2 r4 q2 q3
    generalize Sa.rowB l = X3 at r3 r4 q3
    rw [selvedgeref15_Digest.j0, r1, Option.bind_some, if_pos q1, r2, Option.bind_some, if_pos q2, r3, Option.bind_some, if_pos q3, r4, Option.bind_some]
  unfold selvedgeref15_Digest.f
  by_cases h : n > 0
  · have u : IntKind.u64.wrap n = n := u64_wrap_id _ (by omega) (by omega)
    rw [if_pos h, u]
    exact hj n ⟨by omega, by omega⟩ rfl
  · rw [if_neg h]
    exact hj 0 ⟨by decide, by decide⟩ (by omega)
theorem fit_of {l : List S40} (h : ∀ x ∈ l, x.f0 ≤ 9223372036854775807 ∧ x.f1.size ≤ 1048576 ∧ Sa.sizes x.f2 ≤ 100000000) : bkFit l = true := by
  induction l with
  | nil => rfl
  | cons x l ih =>
    obtain ⟨h1, h2, h3⟩ := h x (by simp)
    unfold bkFit
    rw [Bool.and_eq_true, decide_eq_true_iff]
    exact ⟨⟨h1, by omega⟩, ih (fun y hy => h y (by simp [hy]))⟩
theorem rchain_l (l : List S40) (hl : l.length ≤ 1000000000) (h : ∀ x ∈ l, x.f0 ≤ 9223372036854775807 ∧ x.f1.size ≤ 1048576 ∧ Sa.sizes x.f2 ≤ 100000000) : ∀ (m i : Nat) (n : Int) (p : ByteArray), i + m = l.length → Evk (fun k => selvedgeref15_Chained.l0 k l n p (i : Int)) (Sa.chB n p (bkOf (l.drop i)))
  | 0, i, n, p, hi => (Evk.ret _).step fun k => by
      rw [selvedgeref15_Chained.l0, if_neg (by omega), List.drop_of_length_le (by omega)]
      rfl
  | m + 1, i, n, p, hi => by
    have hlt : i < l.length := by omega
    have w1 := succ_ok hlt hl
    have hg : rd_T40 l (i : Int) = l[i] := by
      unfold rd_T40
      rw [Int.toNat_natCast, List.getD_eq_getElem?_getD, List.getElem?_eq_getElem hlt]
      rfl
    obtain ⟨h1, h2, h3⟩ := h l[i] (List.getElem_mem hlt)
    have e : bkOf (l.drop i) = (l[i].f0, l[i].f1, l[i].f2) :: bkOf (l.drop (i + 1)) := by
      unfold bkOf
      rw [List.drop_eq_getElem_cons hlt]
      rfl
    rw [e, Sa.chB]
    by_cases c1 : l[i].f0 = n
    · by_cases c2 : l[i].f1.toList = p.toList
      · have ih := rchain_l l hl h m (i + 1) (wrap64 (n + 1)) (Sa.digB l[i].f0 l[i].f1 l[i].f2) (by omega)
        rw [if_pos ⟨c1, c2⟩]
        obtain ⟨k0, ih⟩ := ih
        refine ⟨k0 + 2, fun k hk => ?_⟩
        obtain ⟨k', rfl⟩ : ∃ k', k = k' + 1 + 1 := ⟨k - 2, by omega⟩
        show selvedgeref15_Chained.l0 (k' + 1 + 1) l n p (i : Int) = _
        rw [selvedgeref15_Chained.l0, if_pos (by omega), if_pos (by omega), hg, if_pos c1, if_pos c2, rdig_is _ _ _ _ h1 h2 h3, Option.bind_some, w1]
        exact ih (k' + 1) (by omega)
      · rw [if_neg (fun x => c2 x.2)]
        exact (Evk.ret _).step fun k => by rw [selvedgeref15_Chained.l0, if_pos (by omega), if_pos (by omega), hg, if_pos c1, if_neg c2]
    · rw [if_neg (fun x => c1 x.1)]
      exact (Evk.ret _).step fun k => by rw [selvedgeref15_Chained.l0, if_pos (by omega), if_pos (by omega), hg, if_neg c1]
theorem rchain_ev (l : List S40) (n : Int) (p : ByteArray) (hl : l.length ≤ 1000000000) (h : ∀ x ∈ l, x.f0 ≤ 9223372036854775807 ∧ x.f1.size ≤ 1048576 ∧ Sa.sizes x.f2 ≤ 100000000) : Evk (fun k => selvedgeref15_Chained.f k l n p) (Sa.chB n p (bkOf l)) := by
  have h := rchain_l l hl h l.length 0 n p (by omega)
  rw [List.drop_zero] at h
  exact h.of_eq fun k => by unfold selvedgeref15_Chained.f; rfl
theorem mem_sum {α : Type} (f : α → Nat) : ∀ {l : List α} {x : α}, x ∈ l → f x ≤ (l.map f).sum
  | y :: l, x, h => by
    rw [List.map_cons, List.sum_cons]
    rcases List.mem_cons.1 h with rfl | h
    · omega
    · have := mem_sum f h; omega
theorem len_sum {α : Type} (f : α → Nat) (hf : ∀ x, 1 ≤ f x) : ∀ (l : List α), l.length ≤ (l.map f).sum
  | [] => Nat.le_refl _
  | y :: l => by
    rw [List.map_cons, List.sum_cons, List.length_cons]
    have := len_sum f hf l
    have := hf y
    omega
theorem CutChains : selvedgelaw15_CutChains.Pure := by
  intro l n p hl hn hp hB
  simp only at hB
  have hlen := len_sum B40 (fun x => by unfold B40; omega) l
  have hall : ∀ x ∈ l, x.f0 ≤ 9223372036854775807 ∧ x.f1.size ≤ 1048576 ∧ Sa.sizes x.f2 ≤ 100000000 := by
    intro x hx
    have hb := mem_sum B40 hx
    have hg := hl.2 x hx
    have hw := sizes_bulk x.f2
    have hx1 : B40 x = 1 + (x.f1.size + 1) + ((x.f2.map (fun s : ByteArray => s.size + 1)).sum + 1) + 1 := rfl
    exact ⟨(wfI hg.1).2, by omega, by omega⟩
  have hr := rchain_ev l n p (by omega) hall
  refine Evk.get (f := fun k => selvedgelaw15_CutChains.f k l n p) ?_
  refine (shown_ev.bind (g := fun k t166 => (if t166 = true then ((cut_Chained.f l n p).bind fun t167 => ((selvedgeref15_Chained.f k l n p).bind fun t168 => (some (t167 == t168)))) else (some false))) ((hr.bind (g := fun _ t168 => some (Sa.chB n p (bkOf l) == t168)) (Evk.const fun _ => by rw [beq_self_eq_true])).of_eq fun k => ?_)).of_eq fun k => by unfold selvedgelaw15_CutChains.f; rfl
  have e : cut_Chained.f l n p = some (Sa.chB n p (bkOf l)) := if_pos ⟨by omega, fit_of hall⟩
  rw [if_pos rfl, e, Option.bind_some]

end Go.Proofs.Ytefdokolbdnjnaa.Pure
