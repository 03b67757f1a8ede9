/- Proved: the pure half of the law CutFull of chapter 15 (what the walked program computes is 'true'). Conditions: those of its row, no other. -/
import Derived.Test.YtefdokolbdnjnaaArgCutFull
import Derived.Test.YtefdokolbdnjnaaEk
import Derived.IntWalk
import Derived.KernelRfl
namespace Go.Proofs.Ytefdokolbdnjnaa.Pure
open Go.IntWalk Go.RowKit Go.Proofs.Ytefdokolbdnjnaa.PCutFull Go.Proofs.YtefdokolbdnjnaaW.PrintWords Go.Proofs.YtefdokolbdnjnaaW.PrintLast Go.Proofs.Ytefdokolbdnjnaa.Ek
set_option linter.unusedSimpArgs false
set_option linter.unusedVariables false

theorem wr_in (x : Int) : -9223372036854775808 ≤ wrap64 x ∧ wrap64 x ≤ 9223372036854775807 := by
  unfold wrap64
  omega
theorem wfI {n : Int} (h : (Lit.int .i64 n).wf = true) : -9223372036854775808 ≤ n ∧ n ≤ 9223372036854775807 := by
  simp [Lit.wf, IntKind.min, IntKind.max, IntKind.signed, IntKind.bits] at h
  omega
theorem rds {l : List ByteArray} {i : Nat} (h : i < l.length) : rdOf ByteArray.empty l (i : Int) = l[i] := by
  unfold rdOf
  rw [Int.toNat_natCast, List.getD_eq_getElem?_getD, List.getElem?_eq_getElem h]
  rfl
theorem succ_ok {i n : Nat} (h : i < n) (hn : n ≤ 1000000000) : wrap64 ((i : Int) + 1) = ((i + 1 : Nat) : Int) := by rw [wrap64_in _ (by omega)]; omega
def total : List ByteArray → Nat
  | [] => 0
  | t :: l => t.size + total l
theorem total_app (l m : List ByteArray) : total (l ++ m) = total l + total m := by
  induction l with
  | nil => simp [total]
  | cons t l ih => simp only [List.cons_append, total, ih]; omega
theorem len_sizes (l : List ByteArray) : l.length ≤ Sa.sizes l := by
  induction l with
  | nil => exact Nat.le_refl _
  | cons t l ih => simp only [List.length_cons, Sa.sizes]; omega
theorem sizes_app (l m : List ByteArray) : Sa.sizes (l ++ m) = Sa.sizes l + Sa.sizes m := by
  induction l with
  | nil => simp [Sa.sizes]
  | cons t l ih => simp only [List.cons_append, Sa.sizes, ih]; omega
theorem sizes_bulk (l : List ByteArray) : Sa.sizes l ≤ 9 * (l.map (fun s : ByteArray => s.size + 1)).sum := by
  induction l with
  | nil => simp [Sa.sizes]
  | cons t l ih => simp only [List.map_cons, List.sum_cons, Sa.sizes]; omega
def fitC (w : List ByteArray) (t : ByteArray) : Bool := decide (w.length = 0 ∨ (w.length < 6 ∧ total w + t.size ≤ 128))
theorem mn_n (x : Nat) : mn (x : Int) 129 = ((min x 129 : Nat) : Int) := by unfold mn; split <;> omega
theorem size_l (l : List ByteArray) (hl : l.length ≤ 1000000000) : ∀ (m i a : Nat), i + m = l.length → Evk (fun k => cut_size.l0 k ((min a 129 : Nat) : Int) l (l.length : Int) (i : Int)) ((min (a + total (l.drop i)) 129 : Nat) : Int)
  | 0, i, a, hi => by
    refine (Evk.ret _).step fun k => ?_
    rw [cut_size.l0, if_neg (by omega), List.drop_of_length_le (by omega)]
    rfl
  | m + 1, i, a, hi => by
    have hlt : i < l.length := by omega
    have ih := size_l l hl m (i + 1) (a + l[i].size) (by omega)
    rw [List.drop_eq_getElem_cons hlt, total]
    rw [Nat.add_assoc] at ih
    refine ih.step fun k => ?_
    have e : mn (wrap64 (((min a 129 : Nat) : Int) + mn (l[i].size : Int) 129)) 129 = ((min (a + l[i].size) 129 : Nat) : Int) := by
      rw [mn_n, wrap64_in _ (by omega), show ((min a 129 : Nat) : Int) + ((min l[i].size 129 : Nat) : Int) = ((min a 129 + min l[i].size 129 : Nat) : Int) by omega, mn_n]
      omega
    rw [cut_size.l0, if_pos (by omega), if_pos (by omega), if_pos (by omega), rds hlt, succ_ok hlt hl, e]
theorem size_ev (l : List ByteArray) (hl : l.length ≤ 1000000000) : Evk (fun k => cut_size.f k l) ((min (total l) 129 : Nat) : Int) := by
  have h := size_l l hl l.length 0 0 (by omega)
  rw [List.drop_zero, Nat.zero_add] at h
  exact h.of_eq fun k => by unfold cut_size.f; rfl
theorem and_is (w : List ByteArray) (t : ByteArray) (hw : w.length ≤ 1000000000) : cut_and.f w t = some (w ++ [t]) := by
  unfold cut_and.f slices_Clone_string_string.f
  rw [if_pos (by omega), Option.bind_some, if_pos (by omega)]
theorem fits_ev (w : List ByteArray) (t : ByteArray) (hw : w.length ≤ 100000000) : Evk (fun k => cut_Fits.f k w t) (fitC w t) := by
  unfold fitC
  by_cases h0 : w.length = 0
  · rw [decide_eq_true (.inl h0)]
    exact Evk.const fun k => by unfold cut_Fits.f; rw [if_pos (by omega)]
  · by_cases h6 : w.length < 6
    · have h := size_ev (w ++ [t]) (by rw [List.length_append]; simp; omega)
      refine (h.bind (g := fun _ t111 => some (decide (t111 ≤ 128))) (Evk.const fun k => ?_)).of_eq fun k => by unfold cut_Fits.f; rw [if_neg (by omega), if_pos (by omega), and_is w t (by omega), Option.bind_some]
      rw [Option.some.injEq, decide_eq_decide, total_app]
      simp only [total]
      omega
    · rw [decide_eq_false (by omega)]
      exact Evk.const fun k => by unfold cut_Fits.f; rw [if_neg (by omega), if_neg (by omega)]
abbrev St := Int × ByteArray × List ByteArray × List S40
def stepC (s : St) (t : ByteArray) : St := if fitC s.2.2.1 t = true then (s.1, s.2.1, s.2.2.1 ++ [t], s.2.2.2) else (wrap64 (s.1 + 1), Sa.digB s.1 s.2.1 s.2.2.1, [t], s.2.2.2 ++ [(⟨s.1, s.2.1, s.2.2.1⟩ : S40)])
def feedC (s : St) (ts : List ByteArray) : St := ts.foldl stepC s
def flushC (s : Int × ByteArray × List ByteArray) : St := if s.2.2.length = 0 then (s.1, s.2.1, s.2.2, []) else (wrap64 (s.1 + 1), Sa.digB s.1 s.2.1 s.2.2, [], [(⟨s.1, s.2.1, s.2.2⟩ : S40)])
/-- A cutter whose texts aren't too long. -/
def OkC (n : Int) (p : ByteArray) (w : List ByteArray) (b : Nat) : Prop := -9223372036854775808 ≤ n ∧ n ≤ 9223372036854775807 ∧ p.size ≤ 1048576 ∧ Sa.sizes w ≤ b
theorem dig32 (n : Int) (p : ByteArray) (l : List ByteArray) : (Sa.digB n p l).size = 32 := by
  unfold Sa.digB
  exact Sm.sumB_size _
theorem flush_is (n : Int) (p : ByteArray) (w : List ByteArray) (h : OkC n p w 100000000) : cut_Flush.f n p w = some (flushC (n, p, w)) := by
  obtain ⟨h1, h2, h3, h4⟩ := h
  have := len_sizes w
  unfold cut_Flush.f flushC
  by_cases h0 : w.length = 0
  · rw [if_pos h0, if_pos h0]
  · rw [if_neg h0, if_neg h0, if_pos ⟨h1, h2, by omega, by omega⟩]
theorem feed_l (ts : List ByteArray) (hl : ts.length ≤ 1000000000) : ∀ (m i : Nat) (n : Int) (p : ByteArray) (w : List ByteArray) (out : List S40), i + m = ts.length → OkC n p w 100000000 → Sa.sizes w + Sa.sizes (ts.drop i) ≤ 100000000 → out.length + m ≤ 100000000 →
    Evk (fun k => cut_Feed.l0 k out ts (ts.length : Int) (i : Int) n p w) (feedC (n, p, w, out) (ts.drop i))
  | 0, i, n, p, w, out, hi, ho, hs, hn => by
    refine (Evk.ret _).step fun k => ?_
    rw [cut_Feed.l0, if_neg (by omega), List.drop_of_length_le (by omega)]
    rfl
  | m + 1, i, n, p, w, out, hi, ho, hs, hn => by
    have hlt : i < ts.length := by omega
    have c1 : (i : Int) < (ts.length : Int) := by omega
    have c2 : 0 ≤ (i : Int) := by omega
    have hw := len_sizes w
    rw [List.drop_eq_getElem_cons hlt, Sa.sizes] at hs
    rw [List.drop_eq_getElem_cons hlt]
    show Evk _ (feedC (stepC (n, p, w, out) ts[i]) (ts.drop (i + 1)))
    have hf := fits_ev w ts[i] (by omega)
    have hsn : Sa.sizes (w ++ [ts[i]]) = Sa.sizes w + (ts[i].size + 9) := by rw [sizes_app]; rfl
    obtain ⟨o1, o2, o3, o4⟩ := ho
    have hw1 := succ_ok hlt hl
    refine Evk.step (hf.bind (g := fun k t115 => (if t115 = true then ((cut_and.f w ts[i]).bind fun t116 => (cut_Feed.l0 k out ts (ts.length : Int) ((i + 1 : Nat) : Int) n p t116)) else ((cut_Flush.f n p w).bind fun bt119 => (if out.length + bt119.2.2.2.length < 2932031007402 then ((cut_and.f bt119.2.2.1 ts[i]).bind fun t131 => (cut_Feed.l0 k (out ++ bt119.2.2.2) ts (ts.length : Int) ((i + 1 : Nat) : Int) bt119.1 bt119.2.1 t131)) else (none))))) ?_) fun k => by rw [cut_Feed.l0, if_pos c1, if_pos c2, if_pos c1, rds hlt, hw1]
    unfold stepC
    by_cases hfit : fitC w ts[i] = true
    · have ih := feed_l ts hl m (i + 1) n p (w ++ [ts[i]]) out (by omega) ⟨o1, o2, o3, by omega⟩ (by omega) (by omega)
      rw [if_pos hfit]
      exact ih.of_eq fun k => by rw [if_pos hfit, and_is w ts[i] (by omega), Option.bind_some]
    · have hne : ¬ w.length = 0 := fun h => hfit (decide_eq_true (.inl h))
      have hdr : Sa.sizes [ts[i]] = ts[i].size + 9 := rfl
      have ih := feed_l ts hl m (i + 1) (wrap64 (n + 1)) (Sa.digB n p w) [ts[i]] (out ++ [(⟨n, p, w⟩ : S40)]) (by omega) ⟨(wr_in _).1, (wr_in _).2, by rw [dig32]; omega, by omega⟩ (by omega) (by rw [List.length_append]; simp; omega)
      rw [if_neg hfit]
      refine ih.of_eq fun k => ?_
      have e : flushC (n, p, w) = (wrap64 (n + 1), Sa.digB n p w, [], [(⟨n, p, w⟩ : S40)]) := if_neg hne
      rw [if_neg hfit, flush_is n p w ⟨o1, o2, o3, o4⟩, Option.bind_some, e]
      dsimp only
      rw [if_pos (by simp; omega), and_is _ _ (by simp), Option.bind_some]
      rfl
theorem feed_ev (n : Int) (p : ByteArray) (w ts : List ByteArray) (ho : OkC n p w 50000000) (hs : Sa.sizes ts ≤ 50000000) : Evk (fun k => cut_Feed.f k n p w ts) (feedC (n, p, w, []) ts) := by
  have hl := len_sizes ts
  have h := feed_l ts (by omega) ts.length 0 n p w [] (by omega) ⟨ho.1, ho.2.1, ho.2.2.1, by have := ho.2.2.2; omega⟩ (by rw [List.drop_zero]; have := ho.2.2.2; omega) (by simp; omega)
  rw [List.drop_zero] at h
  exact h.of_eq fun k => by unfold cut_Feed.f; rfl
theorem feed_ok : ∀ (ts : List ByteArray) (s : St) (b : Nat), OkC s.1 s.2.1 s.2.2.1 b → OkC (feedC s ts).1 (feedC s ts).2.1 (feedC s ts).2.2.1 (b + Sa.sizes ts) ∧ (feedC s ts).2.2.2.length ≤ s.2.2.2.length + ts.length
  | [], s, b, h => ⟨h, by show s.2.2.2.length ≤ _; omega⟩
  | t :: ts, s, b, h => by
    obtain ⟨h1, h2, h3, h4⟩ := h
    have st : OkC (stepC s t).1 (stepC s t).2.1 (stepC s t).2.2.1 (b + (t.size + 9)) ∧ (stepC s t).2.2.2.length ≤ s.2.2.2.length + 1 := by
      unfold stepC
      by_cases hf : fitC s.2.2.1 t = true
      · rw [if_pos hf]
        exact ⟨⟨h1, h2, h3, by show Sa.sizes (s.2.2.1 ++ [t]) ≤ _; rw [sizes_app]; show _ + (t.size + 9 + 0) ≤ _; omega⟩, by show s.2.2.2.length ≤ _; omega⟩
      · rw [if_neg hf]
        exact ⟨⟨(wr_in _).1, (wr_in _).2, by show (Sa.digB _ _ _).size ≤ _; rw [dig32]; omega, by show t.size + 9 + 0 ≤ _; omega⟩, by simp⟩
    have ih := feed_ok ts (stepC s t) (b + (t.size + 9)) st.1
    refine ⟨?_, ?_⟩
    · have := ih.1
      rw [show b + (t.size + 9) + Sa.sizes ts = b + Sa.sizes (t :: ts) by simp only [Sa.sizes]; omega] at this
      exact this
    · have := ih.2
      have h5 := st.2
      show (feedC (stepC s t) ts).2.2.2.length ≤ _
      rw [List.length_cons]
      omega
theorem shown_ev : Evk (fun k => selvedgelaw15_shown.f k) true := by
  have h := feed_ev 0 (⟨#[]⟩ : ByteArray) [] [(⟨#[49]⟩ : ByteArray), (⟨#[50]⟩ : ByteArray), (⟨#[51]⟩ : ByteArray), (⟨#[52]⟩ : ByteArray), (⟨#[53]⟩ : ByteArray), (⟨#[54]⟩ : ByteArray), (⟨#[55]⟩ : ByteArray)] ⟨by decide, by decide, by decide, by decide⟩ (by decide)
  have e : feedC (0, (⟨#[]⟩ : ByteArray), [], []) [(⟨#[49]⟩ : ByteArray), (⟨#[50]⟩ : ByteArray), (⟨#[51]⟩ : ByteArray), (⟨#[52]⟩ : ByteArray), (⟨#[53]⟩ : ByteArray), (⟨#[54]⟩ : ByteArray), (⟨#[55]⟩ : ByteArray)] = (1, Sa.digB 0 (⟨#[]⟩ : ByteArray) [(⟨#[49]⟩ : ByteArray), (⟨#[50]⟩ : ByteArray), (⟨#[51]⟩ : ByteArray), (⟨#[52]⟩ : ByteArray), (⟨#[53]⟩ : ByteArray), (⟨#[54]⟩ : ByteArray)], [(⟨#[55]⟩ : ByteArray)], [(⟨0, (⟨#[]⟩ : ByteArray), [(⟨#[49]⟩ : ByteArray), (⟨#[50]⟩ : ByteArray), (⟨#[51]⟩ : ByteArray), (⟨#[52]⟩ : ByteArray), (⟨#[53]⟩ : ByteArray), (⟨#[54]⟩ : ByteArray)]⟩ : S40)]) := by
    kernel_rfl
  rw [e] at h
  refine (h.bind (g := fun k bt137 => ((cut_Flush.f bt137.1 bt137.2.1 bt137.2.2.1).bind fun bt146 => (if (bt137.2.2.2.length : Int) = 1 then (if 0 < (bt137.2.2.2.length : Int) then (if (((rd_T40 bt137.2.2.2 0).f2).length : Int) = 6 then (if (bt146.2.2.2.length : Int) = 1 then (if 0 < (bt146.2.2.2.length : Int) then (if (((rd_T40 bt146.2.2.2 0).f2).length : Int) = 1 then (some (bt146.1 == 2)) else (some false)) else (none)) else (some false)) else (some false)) else (none)) else (some false)))) (Evk.const fun k => ?_)).of_eq fun k => by unfold selvedgelaw15_shown.f; rfl
  have e2 := flush_is 1 (Sa.digB 0 (⟨#[]⟩ : ByteArray) [(⟨#[49]⟩ : ByteArray), (⟨#[50]⟩ : ByteArray), (⟨#[51]⟩ : ByteArray), (⟨#[52]⟩ : ByteArray), (⟨#[53]⟩ : ByteArray), (⟨#[54]⟩ : ByteArray)]) [(⟨#[55]⟩ : ByteArray)] ⟨by decide, by decide, by rw [dig32]; decide, by decide⟩
  generalize Sa.digB 0 (⟨#[]⟩ : ByteArray) [(⟨#[49]⟩ : ByteArray), (⟨#[50]⟩ : ByteArray), (⟨#[51]⟩ : ByteArray), (⟨#[52]⟩ : ByteArray), (⟨#[53]⟩ : ByteArray), (⟨#[54]⟩ : ByteArray)] = D at e2
  dsimp only
  have e3 : flushC (1, D, [(⟨#[55]⟩ : ByteArray)]) = (2, Sa.digB 1 D [(⟨#[55]⟩ : ByteArray)], [], [(⟨1, D, [(⟨#[55]⟩ : ByteArray)]⟩ : S40)]) := by
    unfold flushC
    rw [if_neg (by show ¬ (1 = 0); decide)]
    dsimp only
    rw [wrap64_in (1 + 1) (by omega)]
    rfl
  rw [e2, Option.bind_some, e3]
  generalize Sa.digB 1 D [(⟨#[55]⟩ : ByteArray)] = F
  simp [rd_T40]
/-- What isn't followed by a flush is full. -/
inductive FullC : List S40 → List ByteArray → Prop
  | nil (w : List ByteArray) : FullC [] w
  | snoc (out : List S40) (b : S40) (t : ByteArray) (w : List ByteArray) : FullC out b.f2 → fitC b.f2 t = false → FullC (out ++ [b]) (t :: w)
theorem full_step {s : St} (h : FullC s.2.2.2 s.2.2.1) (t : ByteArray) : FullC (stepC s t).2.2.2 (stepC s t).2.2.1 := by
  obtain ⟨n, p, w, out⟩ := s
  unfold stepC
  by_cases hf : fitC w t = true
  · rw [if_pos hf]
    cases h with
    | nil => exact .nil _
    | snoc o b x y h1 h2 => exact .snoc o b x (y ++ [t]) h1 h2
  · rw [if_neg hf]
    exact .snoc out ⟨n, p, w⟩ t [] h (Bool.eq_false_iff.mpr hf)
theorem full_feed : ∀ (ts : List ByteArray) (s : St), FullC s.2.2.2 s.2.2.1 → FullC (feedC s ts).2.2.2 (feedC s ts).2.2.1
  | [], _, h => h
  | t :: ts, s, h => full_feed ts (stepC s t) (full_step h t)
def nextC (out : List S40) (w : List ByteArray) (i : Nat) : List ByteArray := if i + 1 < out.length then (out.getD (i + 1) z40).f2 else w
theorem full_at {out : List S40} {w : List ByteArray} (h : FullC out w) : ∀ i, i < out.length → ∃ t r, nextC out w i = t :: r ∧ fitC (out.getD i z40).f2 t = false := by
  induction h with
  | nil w => intro i hi; simp at hi
  | snoc o b x y h1 h2 ih =>
    intro i hi
    rw [List.length_append] at hi
    simp only [List.length_cons, List.length_nil] at hi
    by_cases hlt : i < o.length
    · obtain ⟨t, r, e1, e2⟩ := ih i hlt
      have g1 : (o ++ [b]).getD i z40 = o.getD i z40 := by rw [List.getD_eq_getElem?_getD, List.getD_eq_getElem?_getD, List.getElem?_append_left hlt]
      refine ⟨t, r, ?_, by rw [g1]; exact e2⟩
      rw [← e1]
      unfold nextC
      rw [List.length_append]
      simp only [List.length_cons, List.length_nil]
      by_cases h3 : i + 1 < o.length
      · rw [if_pos (by omega), if_pos h3, List.getD_eq_getElem?_getD, List.getD_eq_getElem?_getD, List.getElem?_append_left h3]
      · have : i + 1 = o.length := by omega
        rw [if_pos (by omega), if_neg h3, List.getD_eq_getElem?_getD, List.getElem?_append_right (by omega), this, Nat.sub_self]
        rfl
    · have : i = o.length := by omega
      subst this
      refine ⟨x, y, ?_, ?_⟩
      · unfold nextC
        rw [if_neg (by rw [List.length_append]; simp)]
      · rw [List.getD_eq_getElem?_getD, List.getElem?_append_right (Nat.le_refl _), Nat.sub_self]
        exact h2
theorem rd40 {l : List S40} {i : Nat} (h : i < l.length) : rd_T40 l (i : Int) = l.getD i z40 := by
  unfold rd_T40
  rw [Int.toNat_natCast]
theorem full_l (out : List S40) (n : Int) (p : ByteArray) (w : List ByteArray) (hl : out.length ≤ 1000000000) (hs : ∀ i, i < out.length → (out.getD i z40).f2.length ≤ 100000000) (h : FullC out w) : ∀ (m i : Nat), i + m = out.length → Evk (fun k => selvedgelaw15_CutFull.l0 k true out (i : Int) n p w) true
  | 0, i, hi => (Evk.ret _).step fun k => by rw [selvedgelaw15_CutFull.l0, if_neg (by omega)]
  | m + 1, i, hi => by
    have hlt : i < out.length := by omega
    have ih := full_l out n p w hl hs h m (i + 1) (by omega)
    have w1 := succ_ok hlt hl
    obtain ⟨t, r, e1, e2⟩ := full_at h i hlt
    have hf := fits_ev (out.getD i z40).f2 t (hs i hlt)
    rw [e2] at hf
    refine Evk.step (hf.bind (g := fun k t170 => (if t170 = true then (some false) else (selvedgelaw15_CutFull.l0 k true out ((i + 1 : Nat) : Int) n p w))) (ih.of_eq fun k => by rw [if_neg (by decide)])) fun k => ?_
    unfold nextC at e1
    rw [selvedgelaw15_CutFull.l0, if_pos (by omega), w1]
    by_cases h3 : i + 1 < out.length
    · rw [if_pos h3] at e1
      rw [if_pos (by omega), if_pos (by omega), rd40 h3, e1, if_neg (by rw [List.length_cons]; omega), if_pos (by omega), if_pos (by rw [List.length_cons]; omega), rd40 hlt]
      rfl
    · rw [if_neg h3] at e1
      rw [if_neg (by omega), e1, if_neg (by rw [List.length_cons]; omega), if_pos (by omega), if_pos (by rw [List.length_cons]; omega), rd40 hlt]
      rfl
theorem out_small : ∀ (ts : List ByteArray) (s : St) (b : Nat), Sa.sizes s.2.2.1 + Sa.sizes ts ≤ b → (∀ x ∈ s.2.2.2, x.f2.length ≤ b) → ∀ x ∈ (feedC s ts).2.2.2, x.f2.length ≤ b
  | [], _, _, _, h => h
  | t :: ts, s, b, hs, h => by
    have hw := len_sizes s.2.2.1
    simp only [Sa.sizes] at hs
    refine out_small ts (stepC s t) b ?_ ?_
    · unfold stepC
      by_cases hf : fitC s.2.2.1 t = true
      · rw [if_pos hf]
        show Sa.sizes (s.2.2.1 ++ [t]) + _ ≤ b
        rw [sizes_app]
        simp only [Sa.sizes]
        omega
      · rw [if_neg hf]
        show (t.size + 9 + 0) + _ ≤ b
        omega
    · unfold stepC
      by_cases hf : fitC s.2.2.1 t = true
      · rw [if_pos hf]
        exact h
      · rw [if_neg hf]
        intro x hx
        rcases List.mem_append.1 hx with hx | hx
        · exact h x hx
        · have := List.mem_singleton.1 hx
          subst this
          show s.2.2.1.length ≤ b
          omega
theorem CutFull : selvedgelaw15_CutFull.Pure := by
  intro l hl hb
  simp only at hb
  have hs := sizes_bulk l
  have hsh := shown_ev
  have hf := feed_ev 0 (⟨#[]⟩ : ByteArray) [] l ⟨by decide, by decide, by decide, by decide⟩ (by omega)
  have hfull := full_feed l (0, (⟨#[]⟩ : ByteArray), [], []) (.nil _)
  have hok := (feed_ok l (0, (⟨#[]⟩ : ByteArray), [], []) 0 ⟨by decide, by decide, by decide, by decide⟩).2
  have hll := len_sizes l
  have hsm := out_small l (0, (⟨#[]⟩ : ByteArray), [], []) 50000000 (by show 0 + _ ≤ _; omega) (by intro x hx; cases hx)
  refine Evk.get (f := fun k => selvedgelaw15_CutFull.f k l) ?_
  by_cases h3 : (l.length : Int) > 300
  · exact (hsh.bind (g := fun _ t => some t) (Evk.ret _)).of_eq fun k => by unfold selvedgelaw15_CutFull.f; simp only [if_pos h3]
  · refine (hsh.bind (g := fun k t157 => ((cut_Feed.f k 0 (⟨#[]⟩ : ByteArray) ([] : List ByteArray) l).bind fun bt158 => (selvedgelaw15_CutFull.l0 k t157 bt158.2.2.2 0 bt158.1 bt158.2.1 bt158.2.2.1))) (hf.bind (g := fun k bt158 => (selvedgelaw15_CutFull.l0 k true bt158.2.2.2 0 bt158.1 bt158.2.1 bt158.2.2.1)) ?_)).of_eq fun k => by unfold selvedgelaw15_CutFull.f; simp only [if_neg h3]
    generalize feedC (0, (⟨#[]⟩ : ByteArray), [], []) l = s at hfull hok hsm
    obtain ⟨n, p, w, out⟩ := s
    have hlen : out.length ≤ 0 + l.length := hok
    exact full_l out n p w (by omega) (fun i hi => by
      have : out.getD i z40 ∈ out := by rw [List.getD_eq_getElem?_getD, List.getElem?_eq_getElem hi]; exact List.getElem_mem hi
      have := hsm _ this
      omega) hfull out.length 0 (by omega)

end Go.Proofs.Ytefdokolbdnjnaa.Pure
