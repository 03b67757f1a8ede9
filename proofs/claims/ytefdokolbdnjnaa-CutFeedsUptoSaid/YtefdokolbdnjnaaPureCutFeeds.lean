/- Proved: the pure half of the law CutFeeds of chapter 15 (what the walked program computes is 'true'). Conditions: those of its row, no other. -/
import Derived.Test.YtefdokolbdnjnaaArgCutFeeds
import Derived.Test.YtefdokolbdnjnaaVCutFeedsEk
import Derived.IntWalk
import Derived.KernelRfl
namespace Go.Proofs.Ytefdokolbdnjnaa.Pure
open Go.IntWalk Go.RowKit Go.Proofs.Ytefdokolbdnjnaa.PCutFeeds Go.Proofs.YtefdokolbdnjnaaW.PrintWords Go.Proofs.YtefdokolbdnjnaaW.PrintLast Go.Proofs.Ytefdokolbdnjnaa.Ek
set_option linter.unusedSimpArgs false
set_option linter.unusedVariables false

theorem wr_in (x : Int) : -9223372036854775808 ≤ wrap64 x ∧ wrap64 x ≤ 9223372036854775807 := by
  unfold wrap64
  omega
theorem wfI {n : Int} (h : (Lit.int .i64 n).wf = true) : -9223372036854775808 ≤ n ∧ n ≤ 9223372036854775807 := by
  simp [Lit.wf, IntKind.min, IntKind.max, IntKind.signed, IntKind.bits] at h
  omega
theorem rds {l : List ByteArray} {i : Nat} (h : i < l.length) : rdOf ByteArray.empty l (i : Int) = l[i] := by
  unfold rdOf
  rw [Int.toNat_natCast, List.getD_eq_getElem?_getD, List.getElem?_eq_getElem h]
  rfl
theorem succ_ok {i n : Nat} (h : i < n) (hn : n ≤ 1000000000) : wrap64 ((i : Int) + 1) = ((i + 1 : Nat) : Int) := by rw [wrap64_in _ (by omega)]; omega
def total : List ByteArray → Nat
  | [] => 0
  | t :: l => t.size + total l
theorem total_app (l m : List ByteArray) : total (l ++ m) = total l + total m := by
  induction l with
  | nil => simp [total]
  | cons t l ih => simp only [List.cons_append, total, ih]; omega
theorem len_sizes (l : List ByteArray) : l.length ≤ Sa.sizes l := by
  induction l with
  | nil => exact Nat.le_refl _
  | cons t l ih => simp only [List.length_cons, Sa.sizes]; omega
theorem sizes_app (l m : List ByteArray) : Sa.sizes (l ++ m) = Sa.sizes l + Sa.sizes m := by
  induction l with
  | nil => simp [Sa.sizes]
  | cons t l ih => simp only [List.cons_append, Sa.sizes, ih]; omega
theorem sizes_bulk (l : List ByteArray) : Sa.sizes l ≤ 9 * (l.map (fun s : ByteArray => s.size + 1)).sum := by
  induction l with
  | nil => simp [Sa.sizes]
  | cons t l ih => simp only [List.map_cons, List.sum_cons, Sa.sizes]; omega
def fitC (w : List ByteArray) (t : ByteArray) : Bool := decide (w.length = 0 ∨ (w.length < 6 ∧ total w + t.size ≤ 128))
theorem mn_n (x : Nat) : mn (x : Int) 129 = ((min x 129 : Nat) : Int) := by unfold mn; split <;> omega
theorem size_l (l : List ByteArray) (hl : l.length ≤ 1000000000) : ∀ (m i a : Nat), i + m = l.length → Evk (fun k => cut_size.l0 k ((min a 129 : Nat) : Int) l (l.length : Int) (i : Int)) ((min (a + total (l.drop i)) 129 : Nat) : Int)
  | 0, i, a, hi => by
    refine (Evk.ret _).step fun k => ?_
    rw [cut_size.l0, if_neg (by omega), List.drop_of_length_le (by omega)]
    rfl
  | m + 1, i, a, hi => by
    have hlt : i < l.length := by omega
    have ih := size_l l hl m (i + 1) (a + l[i].size) (by omega)
    rw [List.drop_eq_getElem_cons hlt, total]
    rw [Nat.add_assoc] at ih
    refine ih.step fun k => ?_
    have e : mn (wrap64 (((min a 129 : Nat) : Int) + mn (l[i].size : Int) 129)) 129 = ((min (a + l[i].size) 129 : Nat) : Int) := by
      rw [mn_n, wrap64_in _ (by omega), show ((min a 129 : Nat) : Int) + ((min l[i].size 129 : Nat) : Int) = ((min a 129 + min l[i].size 129 : Nat) : Int) by omega, mn_n]
      omega
    rw [cut_size.l0, if_pos (by omega), if_pos (by omega), if_pos (by omega), rds hlt, succ_ok hlt hl, e]
theorem size_ev (l : List ByteArray) (hl : l.length ≤ 1000000000) : Evk (fun k => cut_size.f k l) ((min (total l) 129 : Nat) : Int) := by
  have h := size_l l hl l.length 0 0 (by omega)
  rw [List.drop_zero, Nat.zero_add] at h
  exact h.of_eq fun k => by unfold cut_size.f; rfl
theorem and_is (w : List ByteArray) (t : ByteArray) (hw : w.length ≤ 1000000000) : cut_and.f w t = some (w ++ [t]) := by
  unfold cut_and.f slices_Clone_string_string.f
  rw [if_pos (by omega), Option.bind_some, if_pos (by omega)]
theorem fits_ev (w : List ByteArray) (t : ByteArray) (hw : w.length ≤ 100000000) : Evk (fun k => cut_Fits.f k w t) (fitC w t) := by
  unfold fitC
  by_cases h0 : w.length = 0
  · rw [decide_eq_true (.inl h0)]
    exact Evk.const fun k => by unfold cut_Fits.f; rw [if_pos (by omega)]
  · by_cases h6 : w.length < 6
    · have h := size_ev (w ++ [t]) (by rw [List.length_append]; simp; omega)
      refine (h.bind (g := fun _ t111 => some (decide (t111 ≤ 128))) (Evk.const fun k => ?_)).of_eq fun k => by unfold cut_Fits.f; rw [if_neg (by omega), if_pos (by omega), and_is w t (by omega), Option.bind_some]
      rw [Option.some.injEq, decide_eq_decide, total_app]
      simp only [total]
      omega
    · rw [decide_eq_false (by omega)]
      exact Evk.const fun k => by unfold cut_Fits.f; rw [if_neg (by omega), if_neg (by omega)]
abbrev St := Int × ByteArray × List ByteArray × List S40
def stepC (s : St) (t : ByteArray) : St := if fitC s.2.2.1 t = true then (s.1, s.2.1, s.2.2.1 ++ [t], s.2.2.2) else (wrap64 (s.1 + 1), Sa.digB s.1 s.2.1 s.2.2.1, [t], s.2.2.2 ++ [(⟨s.1, s.2.1, s.2.2.1⟩ : S40)])
def feedC (s : St) (ts : List ByteArray) : St := ts.foldl stepC s
def flushC (s : Int × ByteArray × List ByteArray) : St := if s.2.2.length = 0 then (s.1, s.2.1, s.2.2, []) else (wrap64 (s.1 + 1), Sa.digB s.1 s.2.1 s.2.2, [], [(⟨s.1, s.2.1, s.2.2⟩ : S40)])
/-- A cutter whose texts aren't too long. -/
def OkC (n : Int) (p : ByteArray) (w : List ByteArray) (b : Nat) : Prop := -9223372036854775808 ≤ n ∧ n ≤ 9223372036854775807 ∧ p.size ≤ 1048576 ∧ Sa.sizes w ≤ b
theorem dig32 (n : Int) (p : ByteArray) (l : List ByteArray) : (Sa.digB n p l).size = 32 := by
  unfold Sa.digB
  exact Sm.sumB_size _
theorem flush_is (n : Int) (p : ByteArray) (w : List ByteArray) (h : OkC n p w 100000000) : cut_Flush.f n p w = some (flushC (n, p, w)) := by
  obtain ⟨h1, h2, h3, h4⟩ := h
  have := len_sizes w
  unfold cut_Flush.f flushC
  by_cases h0 : w.length = 0
  · rw [if_pos h0, if_pos h0]
  · rw [if_neg h0, if_neg h0, if_pos ⟨h1, h2, by omega, by omega⟩]
theorem feed_l (ts : List ByteArray) (hl : ts.length ≤ 1000000000) : ∀ (m i : Nat) (n : Int) (p : ByteArray) (w : List ByteArray) (out : List S40), i + m = ts.length → OkC n p w 100000000 → Sa.sizes w + Sa.sizes (ts.drop i) ≤ 100000000 → out.length + m ≤ 100000000 →
    Evk (fun k => cut_Feed.l0 k out ts (ts.length : Int) (i : Int) n p w) (feedC (n, p, w, out) (ts.drop i))
  | 0, i, n, p, w, out, hi, ho, hs, hn => by
    refine (Evk.ret _).step fun k => ?_
    rw [cut_Feed.l0, if_neg (by omega), List.drop_of_length_le (by omega)]
    rfl
  | m + 1, i, n, p, w, out, hi, ho, hs, hn => by
    have hlt : i < ts.length := by omega
    have c1 : (i : Int) < (ts.length : Int) := by omega
    have c2 : 0 ≤ (i : Int) := by omega
    have hw := len_sizes w
    rw [List.drop_eq_getElem_cons hlt, Sa.sizes] at hs
    rw [List.drop_eq_getElem_cons hlt]
    show Evk _ (feedC (stepC (n, p, w, out) ts[i]) (ts.drop (i + 1)))
    have hf := fits_ev w ts[i] (by omega)
    have hsn : Sa.sizes (w ++ [ts[i]]) = Sa.sizes w + (ts[i].size + 9) := by rw [sizes_app]; rfl
    obtain ⟨o1, o2, o3, o4⟩ := ho
    have hw1 := succ_ok hlt hl
    refine Evk.step (hf.bind (g := fun k t115 => (if t115 = true then ((cut_and.f w ts[i]).bind fun t116 => (cut_Feed.l0 k out ts (ts.length : Int) ((i + 1 : Nat) : Int) n p t116)) else ((cut_Flush.f n p w).bind fun bt119 => (if out.length + bt119.2.2.2.length < 2932031007402 then ((cut_and.f bt119.2.2.1 ts[i]).bind fun t131 => (cut_Feed.l0 k (out ++ bt119.2.2.2) ts (ts.length : Int) ((i + 1 : Nat) : Int) bt119.1 bt119.2.1 t131)) else (none))))) ?_) fun k => by rw [cut_Feed.l0, if_pos c1, if_pos c2, if_pos c1, rds hlt, hw1]
    unfold stepC
    by_cases hfit : fitC w ts[i] = true
    · have ih := feed_l ts hl m (i + 1) n p (w ++ [ts[i]]) out (by omega) ⟨o1, o2, o3, by omega⟩ (by omega) (by omega)
      rw [if_pos hfit]
      exact ih.of_eq fun k => by rw [if_pos hfit, and_is w ts[i] (by omega), Option.bind_some]
    · have hne : ¬ w.length = 0 := fun h => hfit (decide_eq_true (.inl h))
      have hdr : Sa.sizes [ts[i]] = ts[i].size + 9 := rfl
      have ih := feed_l ts hl m (i + 1) (wrap64 (n + 1)) (Sa.digB n p w) [ts[i]] (out ++ [(⟨n, p, w⟩ : S40)]) (by omega) ⟨(wr_in _).1, (wr_in _).2, by rw [dig32]; omega, by omega⟩ (by omega) (by rw [List.length_append]; simp; omega)
      rw [if_neg hfit]
      refine ih.of_eq fun k => ?_
      have e : flushC (n, p, w) = (wrap64 (n + 1), Sa.digB n p w, [], [(⟨n, p, w⟩ : S40)]) := if_neg hne
      rw [if_neg hfit, flush_is n p w ⟨o1, o2, o3, o4⟩, Option.bind_some, e]
      dsimp only
      rw [if_pos (by simp; omega), and_is _ _ (by simp), Option.bind_some]
      rfl
theorem feed_ev (n : Int) (p : ByteArray) (w ts : List ByteArray) (ho : OkC n p w 50000000) (hs : Sa.sizes ts ≤ 50000000) : Evk (fun k => cut_Feed.f k n p w ts) (feedC (n, p, w, []) ts) := by
  have hl := len_sizes ts
  have h := feed_l ts (by omega) ts.length 0 n p w [] (by omega) ⟨ho.1, ho.2.1, ho.2.2.1, by have := ho.2.2.2; omega⟩ (by rw [List.drop_zero]; have := ho.2.2.2; omega) (by simp; omega)
  rw [List.drop_zero] at h
  exact h.of_eq fun k => by unfold cut_Feed.f; rfl
theorem feed_ok : ∀ (ts : List ByteArray) (s : St) (b : Nat), OkC s.1 s.2.1 s.2.2.1 b → OkC (feedC s ts).1 (feedC s ts).2.1 (feedC s ts).2.2.1 (b + Sa.sizes ts) ∧ (feedC s ts).2.2.2.length ≤ s.2.2.2.length + ts.length
  | [], s, b, h => ⟨h, by show s.2.2.2.length ≤ _; omega⟩
  | t :: ts, s, b, h => by
    obtain ⟨h1, h2, h3, h4⟩ := h
    have st : OkC (stepC s t).1 (stepC s t).2.1 (stepC s t).2.2.1 (b + (t.size + 9)) ∧ (stepC s t).2.2.2.length ≤ s.2.2.2.length + 1 := by
      unfold stepC
      by_cases hf : fitC s.2.2.1 t = true
      · rw [if_pos hf]
        exact ⟨⟨h1, h2, h3, by show Sa.sizes (s.2.2.1 ++ [t]) ≤ _; rw [sizes_app]; show _ + (t.size + 9 + 0) ≤ _; omega⟩, by show s.2.2.2.length ≤ _; omega⟩
      · rw [if_neg hf]
        exact ⟨⟨(wr_in _).1, (wr_in _).2, by show (Sa.digB _ _ _).size ≤ _; rw [dig32]; omega, by show t.size + 9 + 0 ≤ _; omega⟩, by simp⟩
    have ih := feed_ok ts (stepC s t) (b + (t.size + 9)) st.1
    refine ⟨?_, ?_⟩
    · have := ih.1
      rw [show b + (t.size + 9) + Sa.sizes ts = b + Sa.sizes (t :: ts) by simp only [Sa.sizes]; omega] at this
      exact this
    · have := ih.2
      have h5 := st.2
      show (feedC (stepC s t) ts).2.2.2.length ≤ _
      rw [List.length_cons]
      omega
theorem shown_ev : Evk (fun k => selvedgelaw15_shown.f k) true := by
  have h := feed_ev 0 (⟨#[]⟩ : ByteArray) [] [(⟨#[49]⟩ : ByteArray), (⟨#[50]⟩ : ByteArray), (⟨#[51]⟩ : ByteArray), (⟨#[52]⟩ : ByteArray), (⟨#[53]⟩ : ByteArray), (⟨#[54]⟩ : ByteArray), (⟨#[55]⟩ : ByteArray)] ⟨by decide, by decide, by decide, by decide⟩ (by decide)
  have e : feedC (0, (⟨#[]⟩ : ByteArray), [], []) [(⟨#[49]⟩ : ByteArray), (⟨#[50]⟩ : ByteArray), (⟨#[51]⟩ : ByteArray), (⟨#[52]⟩ : ByteArray), (⟨#[53]⟩ : ByteArray), (⟨#[54]⟩ : ByteArray), (⟨#[55]⟩ : ByteArray)] = (1, Sa.digB 0 (⟨#[]⟩ : ByteArray) [(⟨#[49]⟩ : ByteArray), (⟨#[50]⟩ : ByteArray), (⟨#[51]⟩ : ByteArray), (⟨#[52]⟩ : ByteArray), (⟨#[53]⟩ : ByteArray), (⟨#[54]⟩ : ByteArray)], [(⟨#[55]⟩ : ByteArray)], [(⟨0, (⟨#[]⟩ : ByteArray), [(⟨#[49]⟩ : ByteArray), (⟨#[50]⟩ : ByteArray), (⟨#[51]⟩ : ByteArray), (⟨#[52]⟩ : ByteArray), (⟨#[53]⟩ : ByteArray), (⟨#[54]⟩ : ByteArray)]⟩ : S40)]) := by
    kernel_rfl
  rw [e] at h
  refine (h.bind (g := fun k bt137 => ((cut_Flush.f bt137.1 bt137.2.1 bt137.2.2.1).bind fun bt146 => (if (bt137.2.2.2.length : Int) = 1 then (if 0 < (bt137.2.2.2.length : Int) then (if (((rd_T40 bt137.2.2.2 0).f2).length : Int) = 6 then (if (bt146.2.2.2.length : Int) = 1 then (if 0 < (bt146.2.2.2.length : Int) then (if (((rd_T40 bt146.2.2.2 0).f2).length : Int) = 1 then (some (bt146.1 == 2)) else (some false)) else (none)) else (some false)) else (some false)) else (none)) else (some false)))) (Evk.const fun k => ?_)).of_eq fun k => by unfold selvedgelaw15_shown.f; rfl
  have e2 := flush_is 1 (Sa.digB 0 (⟨#[]⟩ : ByteArray) [(⟨#[49]⟩ : ByteArray), (⟨#[50]⟩ : ByteArray), (⟨#[51]⟩ : ByteArray), (⟨#[52]⟩ : ByteArray), (⟨#[53]⟩ : ByteArray), (⟨#[54]⟩ : ByteArray)]) [(⟨#[55]⟩ : ByteArray)] ⟨by decide, by decide, by rw [dig32]; decide, by decide⟩
  generalize Sa.digB 0 (⟨#[]⟩ : ByteArray) [(⟨#[49]⟩ : ByteArray), (⟨#[50]⟩ : ByteArray), (⟨#[51]⟩ : ByteArray), (⟨#[52]⟩ : ByteArray), (⟨#[53]⟩ : ByteArray), (⟨#[54]⟩ : ByteArray)] = D at e2
  dsimp only
  have e3 : flushC (1, D, [(⟨#[55]⟩ : ByteArray)]) = (2, Sa.digB 1 D [(⟨#[55]⟩ : ByteArray)], [], [(⟨1, D, [(⟨#[55]⟩ : ByteArray)]⟩ : S40)]) := by
    unfold flushC
    rw [if_neg (by show ¬ (1 = 0); decide)]
    dsimp only
    rw [wrap64_in (1 + 1) (by omega)]
    rfl
  rw [e2, Option.bind_some, e3]
  generalize Sa.digB 1 D [(⟨#[55]⟩ : ByteArray)] = F
  simp [rd_T40]
theorem same_l (l : List ByteArray) (hl : l.length ≤ 1000000000) : ∀ (m i : Nat), i + m = l.length → Evk (fun k => selvedgeref01_Same.l0 k l l (i : Int)) true
  | 0, i, hi => (Evk.ret _).step fun k => by rw [selvedgeref01_Same.l0, if_neg (by omega)]
  | m + 1, i, hi => by
    have hlt : i < l.length := by omega
    refine (same_l l hl m (i + 1) (by omega)).step fun k => ?_
    rw [selvedgeref01_Same.l0, if_pos (by omega), if_pos (by omega), if_pos (by omega), if_pos rfl, succ_ok hlt hl]
theorem same_ev (l : List ByteArray) (hl : l.length ≤ 1000000000) : Evk (fun k => selvedgeref01_Same.f k l l) true :=
  (same_l l hl l.length 0 (by omega)).of_eq fun k => by unfold selvedgeref01_Same.f; rw [if_pos rfl]; rfl
theorem rd40 {l : List S40} {i : Nat} (h : i < l.length) : rd_T40 l (i : Int) = l.getD i z40 := by
  unfold rd_T40
  rw [Int.toNat_natCast]
theorem blocks_l (l : List S40) (hl : l.length ≤ 1000000000) (hs : ∀ x ∈ l, x.f2.length ≤ 1000000000) : ∀ (m i : Nat), i + m = l.length → Evk (fun k => selvedgeref15_Blocks.l0 k l l (i : Int)) true
  | 0, i, hi => (Evk.ret _).step fun k => by rw [selvedgeref15_Blocks.l0, if_neg (by omega)]
  | m + 1, i, hi => by
    have hlt : i < l.length := by omega
    have hin : l.getD i z40 ∈ l := by rw [List.getD_eq_getElem?_getD, List.getElem?_eq_getElem hlt]; exact List.getElem_mem hlt
    have ih := blocks_l l hl hs m (i + 1) (by omega)
    have w1 := succ_ok hlt hl
    refine Evk.step ((same_ev (l.getD i z40).f2 (hs _ hin)).bind (g := fun k t164 => (if t164 = true then (selvedgeref15_Blocks.l0 k l l ((i + 1 : Nat) : Int)) else (some false))) (ih.of_eq fun k => by rw [if_pos rfl])) fun k => ?_
    rw [selvedgeref15_Blocks.l0, if_pos (by omega), if_pos (by omega), if_pos (by omega), rd40 hlt, if_pos rfl, if_pos rfl, w1]
theorem blocks_ev (l : List S40) (hl : l.length ≤ 1000000000) (hs : ∀ x ∈ l, x.f2.length ≤ 1000000000) : Evk (fun k => selvedgeref15_Blocks.f k l l) true :=
  (blocks_l l hl hs l.length 0 (by omega)).of_eq fun k => by unfold selvedgeref15_Blocks.f; rw [if_pos rfl]; rfl
theorem csame_ev (n : Int) (p : ByteArray) (w : List ByteArray) (hl : w.length ≤ 1000000000) : Evk (fun k => selvedgeref15_Same.f k n p w n p w) true :=
  ((same_ev w hl).bind (g := fun _ t161 => (if t161 = true then (if n = n then (some (p.toList == p.toList)) else (some false)) else (some false))) (Evk.const fun k => by rw [if_pos rfl, if_pos rfl, beq_self_eq_true])).of_eq fun k => by unfold selvedgeref15_Same.f; rfl
theorem out_small : ∀ (ts : List ByteArray) (s : St) (b : Nat), Sa.sizes s.2.2.1 + Sa.sizes ts ≤ b → (∀ x ∈ s.2.2.2, x.f2.length ≤ b) → ∀ x ∈ (feedC s ts).2.2.2, x.f2.length ≤ b
  | [], _, _, _, h => h
  | t :: ts, s, b, hs, h => by
    have hw := len_sizes s.2.2.1
    simp only [Sa.sizes] at hs
    refine out_small ts (stepC s t) b ?_ ?_
    · unfold stepC
      by_cases hf : fitC s.2.2.1 t = true
      · rw [if_pos hf]
        show Sa.sizes (s.2.2.1 ++ [t]) + _ ≤ b
        rw [sizes_app]
        simp only [Sa.sizes]
        omega
      · rw [if_neg hf]
        show (t.size + 9 + 0) + _ ≤ b
        omega
    · unfold stepC
      by_cases hf : fitC s.2.2.1 t = true
      · rw [if_pos hf]
        exact h
      · rw [if_neg hf]
        intro x hx
        rcases List.mem_append.1 hx with hx | hx
        · exact h x hx
        · have := List.mem_singleton.1 hx
          subst this
          show s.2.2.1.length ≤ b
          omega
theorem rdig_is (n : Int) (p : ByteArray) (l : List ByteArray) (k : Nat) (hn : n ≤ 9223372036854775807) (hp : p.size ≤ 1048576) (hl : Sa.sizes l ≤ 100000000) : selvedgeref15_Digest.f (k + 1) n p l = some (Sa.digB n p l) := by
  have h1 := Sa.numB_le n.toNat
  have h2 := Sa.textB_le p
  have h3 := Sa.rowB_le l
  have b1 : p.size ≤ 140737488351232 := by omega
  have b2 : Sa.sizes l + 9 ≤ 140737488351232 := by omega
  have q1 : 1 + (Sa.numB n.toNat).size ≤ 9223372036854775807 := by omega
  have h0 : (⟨#[107]⟩ : ByteArray).size = 1 := rfl
  have q2 : ((⟨#[107]⟩ : ByteArray) ++ Sa.numB n.toNat).size + (Sa.textB p).size ≤ 9223372036854775807 := by rw [ByteArray.size_append, h0]; omega
  have q3 : (((⟨#[107]⟩ : ByteArray) ++ Sa.numB n.toNat) ++ Sa.textB p).size + (Sa.rowB l).size ≤ 9223372036854775807 := by rw [ByteArray.size_append, ByteArray.size_append, h0]; omega
  have q4 : ((((⟨#[107]⟩ : ByteArray) ++ Sa.numB n.toNat) ++ Sa.textB p) ++ Sa.rowB l).size ≤ 140737488351232 := by rw [ByteArray.size_append, ByteArray.size_append, ByteArray.size_append, h0]; omega
  have hj : ∀ v : Int, 0 ≤ v ∧ v < 18446744073709551616 → v.toNat = n.toNat → selvedgeref15_Digest.j0 (k + 1) v n p l = some (Sa.digB n p l) := by
    intro v hv e
    have r1 : selvedgeref01_Num.f v = some (Sa.numB n.toNat) := by rw [← e]; exact if_pos hv
    have r2 : selvedgeref01_Text.f p = some (Sa.textB p) := if_pos b1
    have r3 : selvedgeref01_Row.f l = some (Sa.rowB l) := if_pos b2
    have r4 : selvedgeref02_Sum.f ((((⟨#[107]⟩ : ByteArray) ++ Sa.numB n.toNat) ++ Sa.textB p) ++ Sa.rowB l) = some (Sa.digB n p l) := if_pos q4
    clear h1 h2 h3 q4 b1 b2 h0
    generalize Sa.digB n p l = D at r4 ⊢
    generalize Sa.numB n.toNat = X1 at r1 r4 q1 q2 q3
    generalize Sa.textB p = X2 at r2 r4 q2 q3
    generalize Sa.rowB l = X3 at r3 r4 q3
    rw [selvedgeref15_Digest.j0, r1, Option.bind_some, if_pos q1, r2, Option.bind_some, if_pos q2, r3, Option.bind_some, if_pos q3, r4, Option.bind_some]
  unfold selvedgeref15_Digest.f
  by_cases h : n > 0
  · have u : IntKind.u64.wrap n = n := u64_wrap_id _ (by omega) (by omega)
    rw [if_pos h, u]
    exact hj n ⟨by omega, by omega⟩ rfl
  · rw [if_neg h]
    exact hj 0 ⟨by decide, by decide⟩ (by omega)
theorem rflush_is (n : Int) (p : ByteArray) (w : List ByteArray) (h : OkC n p w 100000000) : selvedgeref15_Flush.f n p w = some (flushC (n, p, w)) := by
  obtain ⟨h1, h2, h3, h4⟩ := h
  have := len_sizes w
  unfold selvedgeref15_Flush.f flushC
  by_cases h0 : w.length = 0
  · rw [if_pos h0, if_pos h0]
  · rw [if_neg h0, if_neg h0, if_pos ⟨h1, h2, by omega, by omega⟩]
theorem rfits_l (w : List ByteArray) (hw : w.length ≤ 6) : ∀ (m i a : Nat), i + m = w.length → a ≤ 128 * (i + 1) → Evk (fun k => selvedgeref15_Fits.l0 k w (a : Int) (i : Int)) (decide (a + total (w.drop i) ≤ 128))
  | 0, i, a, hi, ha => by
    refine (Evk.ret _).step fun k => ?_
    rw [selvedgeref15_Fits.l0, if_neg (by omega), List.drop_of_length_le (by omega), Option.some.injEq, decide_eq_decide]
    simp only [total]
    omega
  | m + 1, i, a, hi, ha => by
    have hlt : i < w.length := by omega
    have c1 : (i : Int) < (w.length : Int) := by omega
    have c2 : 0 ≤ (i : Int) := by omega
    have w1 := succ_ok hlt (by omega)
    rw [List.drop_eq_getElem_cons hlt, total]
    by_cases hb : ((w[i].size : Nat) : Int) > 128
    · rw [decide_eq_false (by omega)]
      exact (Evk.ret _).step fun k => by rw [selvedgeref15_Fits.l0, if_pos c1, if_pos c2, rds hlt, if_pos hb]
    · have ih := rfits_l w hw m (i + 1) (a + w[i].size) (by omega) (by omega)
      have w2 : wrap64 ((a : Int) + (w[i].size : Int)) = ((a + w[i].size : Nat) : Int) := by rw [wrap64_in _ (by omega)]; omega
      rw [← Nat.add_assoc]
      exact ih.step fun k => by rw [selvedgeref15_Fits.l0, if_pos c1, if_pos c2, rds hlt, if_neg hb, w1, w2]
theorem rfits_ev (w : List ByteArray) (t : ByteArray) : Evk (fun k => selvedgeref15_Fits.f k w t) (fitC w t) := by
  have hno : Evk (fun k => selvedgeref15_Fits.j0 k w t true) false := (Evk.ret _).step fun k => by rw [selvedgeref15_Fits.j0, if_pos rfl]
  unfold fitC
  by_cases h0 : w.length = 0
  · rw [decide_eq_true (.inl h0)]
    exact Evk.const fun k => by unfold selvedgeref15_Fits.f; rw [if_pos (by omega)]
  · by_cases h6 : w.length < 6
    · by_cases ht : (t.size : Int) > 128
      · rw [decide_eq_false (by omega)]
        exact hno.of_eq fun k => by unfold selvedgeref15_Fits.f; rw [if_neg (by omega), if_neg (by omega), decide_eq_true ht]
      · have h := rfits_l w (by omega) w.length 0 t.size (by omega) (by omega)
        rw [List.drop_zero] at h
        have e : decide (w.length = 0 ∨ w.length < 6 ∧ total w + t.size ≤ 128) = decide (t.size + total w ≤ 128) := by rw [decide_eq_decide]; omega
        rw [e]
        refine (Evk.step (f := fun k => selvedgeref15_Fits.j0 k w t false) h fun k => ?_).of_eq fun k => by unfold selvedgeref15_Fits.f; rw [if_neg (by omega), if_neg (by omega), decide_eq_false ht]
        rw [selvedgeref15_Fits.j0, if_neg (by decide)]
        rfl
    · rw [decide_eq_false (by omega)]
      exact hno.of_eq fun k => by unfold selvedgeref15_Fits.f; rw [if_neg (by omega), if_pos (by omega)]
theorem rfeed_l (ts : List ByteArray) (hl : ts.length ≤ 1000000000) : ∀ (m i : Nat) (n : Int) (p : ByteArray) (w : List ByteArray) (out : List S40), i + m = ts.length → OkC n p w 100000000 → Sa.sizes w + Sa.sizes (ts.drop i) ≤ 100000000 → out.length + m ≤ 100000000 →
    Evk (fun k => selvedgeref15_Feed.l0 k ts out (i : Int) n p w) (feedC (n, p, w, out) (ts.drop i))
  | 0, i, n, p, w, out, hi, ho, hs, hn => by
    refine (Evk.ret _).step fun k => ?_
    rw [selvedgeref15_Feed.l0, if_neg (by omega), List.drop_of_length_le (by omega)]
    rfl
  | m + 1, i, n, p, w, out, hi, ho, hs, hn => by
    have hlt : i < ts.length := by omega
    have c1 : (i : Int) < (ts.length : Int) := by omega
    have c2 : 0 ≤ (i : Int) := by omega
    have hw := len_sizes w
    rw [List.drop_eq_getElem_cons hlt, Sa.sizes] at hs
    rw [List.drop_eq_getElem_cons hlt]
    show Evk _ (feedC (stepC (n, p, w, out) ts[i]) (ts.drop (i + 1)))
    have hf := rfits_ev w ts[i]
    have hsn : Sa.sizes (w ++ [ts[i]]) = Sa.sizes w + (ts[i].size + 9) := by rw [sizes_app]; rfl
    obtain ⟨o1, o2, o3, o4⟩ := ho
    have hw1 := succ_ok hlt hl
    have d1 : w.length < 8796093022208 := by omega
    refine Evk.step (hf.bind (g := fun k t172 => (if t172 = true then ((some (([] : List ByteArray) : List ByteArray)).bind fun y173 => (if y173.length + w.length < 8796093022208 then ((some (y173 ++ w : List ByteArray)).bind fun y176 => ((some (([ts[i]] : List ByteArray) : List ByteArray)).bind fun y180 => (if y176.length + y180.length < 8796093022208 then (selvedgeref15_Feed.l0 k ts out ((i + 1 : Nat) : Int) n p (y176 ++ y180)) else (none)))) else (none))) else ((selvedgeref15_Flush.f n p w).bind fun bt186 => (if out.length + bt186.2.2.2.length < 2932031007402 then ((some (([] : List ByteArray) : List ByteArray)).bind fun y198 => (if y198.length + bt186.2.2.1.length < 8796093022208 then ((some (y198 ++ bt186.2.2.1 : List ByteArray)).bind fun y201 => ((some (([ts[i]] : List ByteArray) : List ByteArray)).bind fun y205 => (if y201.length + y205.length < 8796093022208 then (selvedgeref15_Feed.l0 k ts (out ++ bt186.2.2.2) ((i + 1 : Nat) : Int) bt186.1 bt186.2.1 (y201 ++ y205)) else (none)))) else (none))) else (none))))) ?_) fun k => by rw [selvedgeref15_Feed.l0, if_pos c1, if_pos c2, rds hlt, hw1]
    unfold stepC
    by_cases hfit : fitC w ts[i] = true
    · have ih := rfeed_l ts hl m (i + 1) n p (w ++ [ts[i]]) out (by omega) ⟨o1, o2, o3, by omega⟩ (by omega) (by omega)
      rw [if_pos hfit]
      refine ih.of_eq fun k => ?_
      rw [if_pos hfit]
      simp only [Option.bind_some, List.nil_append, List.length_nil, List.length_cons, Nat.zero_add]
      rw [if_pos d1, if_pos (by omega)]
    · have hne : ¬ w.length = 0 := fun h => hfit (decide_eq_true (.inl h))
      have hdr : Sa.sizes [ts[i]] = ts[i].size + 9 := rfl
      have ih := rfeed_l ts hl m (i + 1) (wrap64 (n + 1)) (Sa.digB n p w) [ts[i]] (out ++ [(⟨n, p, w⟩ : S40)]) (by omega) ⟨(wr_in _).1, (wr_in _).2, by rw [dig32]; omega, by omega⟩ (by omega) (by rw [List.length_append]; simp; omega)
      rw [if_neg hfit]
      refine ih.of_eq fun k => ?_
      have e : flushC (n, p, w) = (wrap64 (n + 1), Sa.digB n p w, [], [(⟨n, p, w⟩ : S40)]) := if_neg hne
      rw [if_neg hfit, rflush_is n p w ⟨o1, o2, o3, o4⟩, Option.bind_some, e]
      simp only [Option.bind_some, List.nil_append, List.length_nil, List.length_cons, Nat.zero_add]
      rw [if_pos (by omega), if_pos (by decide), if_pos (by decide)]
theorem rfeed_ev (n : Int) (p : ByteArray) (w ts : List ByteArray) (ho : OkC n p w 50000000) (hs : Sa.sizes ts ≤ 50000000) : Evk (fun k => selvedgeref15_Feed.f k n p w ts) (feedC (n, p, w, []) ts) := by
  have hl := len_sizes ts
  have h := rfeed_l ts (by omega) ts.length 0 n p w [] (by omega) ⟨ho.1, ho.2.1, ho.2.2.1, by have := ho.2.2.2; omega⟩ (by rw [List.drop_zero]; have := ho.2.2.2; omega) (by simp; omega)
  rw [List.drop_zero] at h
  exact h.of_eq fun k => by unfold selvedgeref15_Feed.f; rfl
theorem cdig_is (n : Int) (p : ByteArray) (l : List ByteArray) (hn0 : -9223372036854775808 ≤ n) (hn : n ≤ 9223372036854775807) (hp : p.size ≤ 1048576) (hl : Sa.sizes l ≤ 100000000) : cut_Digest.f n p l = some (Sa.digB n p l) := by
  have h1 := Sa.numB_le n.toNat
  have h2 := Sa.textB_le p
  have h3 := Sa.rowB_le l
  have b1 : p.size ≤ 140737488351232 := by omega
  have b2 : Sa.sizes l + 9 ≤ 140737488351232 := by omega
  have q1 : 1 + (Sa.numB n.toNat).size ≤ 9223372036854775807 := by omega
  have h0 : (⟨#[107]⟩ : ByteArray).size = 1 := rfl
  have q2 : ((⟨#[107]⟩ : ByteArray) ++ Sa.numB n.toNat).size + (Sa.textB p).size ≤ 9223372036854775807 := by rw [ByteArray.size_append, h0]; omega
  have q3 : (((⟨#[107]⟩ : ByteArray) ++ Sa.numB n.toNat) ++ Sa.textB p).size + (Sa.rowB l).size ≤ 9223372036854775807 := by rw [ByteArray.size_append, ByteArray.size_append, h0]; omega
  have q4 : ((((⟨#[107]⟩ : ByteArray) ++ Sa.numB n.toNat) ++ Sa.textB p) ++ Sa.rowB l).size ≤ 140737488351232 := by rw [ByteArray.size_append, ByteArray.size_append, ByteArray.size_append, h0]; omega
  have hm : IntKind.u64.wrap (mx n 0) = (n.toNat : Int) := by
    have : mx n 0 = (n.toNat : Int) := by unfold mx; split <;> omega
    rw [this]
    exact u64_wrap_id _ (by omega) (by omega)
  have r1 : digits_Num.f (n.toNat : Int) = some (Sa.numB n.toNat) := by
    have := (if_pos ⟨by omega, by omega⟩ : digits_Num.f (n.toNat : Int) = some (Sa.numB (n.toNat : Int).toNat))
    rwa [Int.toNat_natCast] at this
  have r2 : digits_Text.f p = some (Sa.textB p) := if_pos b1
  have r3 : digits_Row.f l = some (Sa.rowB l) := if_pos b2
  have r4 : sha_Sum.f ((((⟨#[107]⟩ : ByteArray) ++ Sa.numB n.toNat) ++ Sa.textB p) ++ Sa.rowB l) = some (Sa.digB n p l) := if_pos q4
  unfold cut_Digest.f
  rw [hm]
  clear h1 h2 h3 q4 b1 b2 h0 hm
  generalize Sa.digB n p l = D at r4 ⊢
  generalize Sa.numB n.toNat = X1 at r1 r4 q1 q2 q3
  generalize Sa.textB p = X2 at r2 r4 q2 q3
  generalize Sa.rowB l = X3 at r3 r4 q3
  rw [r1, Option.bind_some, if_pos q1, r2, Option.bind_some, if_pos q2, r3, Option.bind_some, if_pos q3, r4, Option.bind_some]
theorem CutFeeds : selvedgelaw15_CutFeeds.Pure := by
  intro x hx hB
  obtain ⟨⟨c1, c2, c3⟩, ha, ⟨d1, d2, d3⟩, he⟩ := hx
  have hn := wfI c1
  have hm := wfI d1
  unfold B42 B39 B40 at hB
  simp only at hB
  have s1 := sizes_bulk x.f0.f2
  have s2 := sizes_bulk x.f1
  have s3 := sizes_bulk x.f2.f2
  have l1 := len_sizes x.f0.f2
  have l2 := len_sizes x.f1
  have ho : OkC x.f0.f0 x.f0.f1 x.f0.f2 10000000 := ⟨hn.1, hn.2, by omega, by omega⟩
  have ho5 : OkC x.f0.f0 x.f0.f1 x.f0.f2 50000000 := ⟨hn.1, hn.2, by omega, by omega⟩
  have ho1 : OkC x.f0.f0 x.f0.f1 x.f0.f2 100000000 := ⟨hn.1, hn.2, by omega, by omega⟩
  have f1 := feed_ev x.f0.f0 x.f0.f1 x.f0.f2 x.f1 ho5 (by omega)
  have f2 := rfeed_ev x.f0.f0 x.f0.f1 x.f0.f2 x.f1 ho5 (by omega)
  have f3 := flush_is x.f0.f0 x.f0.f1 x.f0.f2 ho1
  have f4 := rflush_is x.f0.f0 x.f0.f1 x.f0.f2 ho1
  have g1 := cdig_is x.f2.f0 x.f2.f1 x.f2.f2 hm.1 hm.2 (by omega) (by omega)
  have g2 := fun k => rdig_is x.f2.f0 x.f2.f1 x.f2.f2 k hm.2 (by omega) (by omega)
  have t1 := fits_ev x.f0.f2 x.f3 (by omega)
  have t2 := rfits_ev x.f0.f2 x.f3
  have k1 := feed_ok x.f1 (x.f0.f0, x.f0.f1, x.f0.f2, []) 10000000 ho
  have hsm := out_small x.f1 (x.f0.f0, x.f0.f1, x.f0.f2, []) 50000000 (by show Sa.sizes x.f0.f2 + _ ≤ _; omega) (by intro y hy; cases hy)
  generalize feedC (x.f0.f0, x.f0.f1, x.f0.f2, []) x.f1 = s at f1 f2 k1 hsm
  obtain ⟨n1, p1, w1, m1⟩ := s
  obtain ⟨⟨q1, q2, q3, q4⟩, q5⟩ := k1
  dsimp only at q1 q2 q3 q4 q5 hsm
  have lw := len_sizes w1
  have a1 := csame_ev n1 p1 w1 (by omega)
  have a3 := blocks_ev m1 (by rw [List.length_nil] at q5; omega) (fun y hy => by have := hsm y hy; omega)
  have hfl : (flushC (x.f0.f0, x.f0.f1, x.f0.f2)).2.2.1.length ≤ 1000000000 ∧ (flushC (x.f0.f0, x.f0.f1, x.f0.f2)).2.2.2.length ≤ 1000000000 ∧ ∀ y ∈ (flushC (x.f0.f0, x.f0.f1, x.f0.f2)).2.2.2, y.f2.length ≤ 1000000000 := by
    unfold flushC
    dsimp only
    split
    · exact ⟨by show x.f0.f2.length ≤ _; omega, by simp, by intro y hy; cases hy⟩
    · exact ⟨by simp, by simp, by intro y hy; have := List.mem_singleton.1 hy; subst this; show x.f0.f2.length ≤ _; omega⟩
  generalize flushC (x.f0.f0, x.f0.f1, x.f0.f2) = r at f3 f4 hfl
  obtain ⟨n2, p2, w2, m2⟩ := r
  have a2 := csame_ev n2 p2 w2 hfl.1
  have a4 := blocks_ev m2 hfl.2.1 hfl.2.2
  clear hfl hsm s1 s2 s3 q4 q5 lw ho ho1 ho5 hB
  have hj : ∀ z : Bool, Evk (fun k => selvedgelaw15_CutFeeds.j0 k x.f1 x.f3 true z x.f0.f0 x.f0.f1 x.f0.f2 x.f2.f0 x.f2.f1 x.f2.f2) true := by
    intro z
    cases z with
    | true => exact (Evk.ret _).step fun k => by rw [selvedgelaw15_CutFeeds.j0, if_pos rfl]
    | false =>
      obtain ⟨k1, f1⟩ := f1
      obtain ⟨k2, f2⟩ := f2
      obtain ⟨k3, a1⟩ := a1
      obtain ⟨k4, a2⟩ := a2
      obtain ⟨k5, a3⟩ := a3
      obtain ⟨k6, a4⟩ := a4
      obtain ⟨k7, t1⟩ := t1
      obtain ⟨k8, t2⟩ := t2
      refine ⟨k1 + k2 + k3 + k4 + k5 + k6 + k7 + k8 + 4, fun k hk => ?_⟩
      obtain ⟨j, rfl⟩ : ∃ j, k = j + 1 + 1 + 1 + 1 := ⟨k - 4, by omega⟩
      have f1 : cut_Feed.f (j + 1 + 1 + 1) _ _ _ _ = _ := f1 (j + 1 + 1 + 1) (by omega)
      have f2 : selvedgeref15_Feed.f (j + 1 + 1 + 1) _ _ _ _ = _ := f2 (j + 1 + 1 + 1) (by omega)
      have a1 : selvedgeref15_Same.f (j + 1 + 1 + 1) _ _ _ _ _ _ = _ := a1 (j + 1 + 1 + 1) (by omega)
      have a2 : selvedgeref15_Same.f (j + 1 + 1 + 1) _ _ _ _ _ _ = _ := a2 (j + 1 + 1 + 1) (by omega)
      have a3 : selvedgeref15_Blocks.f (j + 1 + 1) _ _ = _ := a3 (j + 1 + 1) (by omega)
      have a4 : selvedgeref15_Blocks.f (j + 1 + 1) _ _ = _ := a4 (j + 1 + 1) (by omega)
      have t1 : cut_Fits.f (j + 1) _ _ = _ := t1 (j + 1) (by omega)
      have t2 : selvedgeref15_Fits.f (j + 1) _ _ = _ := t2 (j + 1) (by omega)
      show selvedgelaw15_CutFeeds.j0 (j + 1 + 1 + 1 + 1) _ _ _ _ _ _ _ _ _ _ = _
      rw [selvedgelaw15_CutFeeds.j0, if_neg (by decide), f1, Option.bind_some, f2, Option.bind_some, f3, Option.bind_some, f4, Option.bind_some, a1, Option.bind_some, if_pos rfl, a2, Option.bind_some, selvedgelaw15_CutFeeds.j1, a3, Option.bind_some, if_pos rfl, a4, Option.bind_some, selvedgelaw15_CutFeeds.j2, if_pos rfl, if_pos rfl, if_pos rfl, g1, Option.bind_some, g2, Option.bind_some, if_pos rfl, t1, Option.bind_some, t2, Option.bind_some, beq_self_eq_true]
  refine Evk.get (f := fun k => selvedgelaw15_CutFeeds.f k x.f0.f0 x.f0.f1 x.f0.f2 x.f1 x.f2.f0 x.f2.f1 x.f2.f2 x.f3) ?_
  refine (shown_ev.bind (g := fun k t226 => (if (x.f1.length : Int) > 300 then (selvedgelaw15_CutFeeds.j0 k x.f1 x.f3 t226 true x.f0.f0 x.f0.f1 x.f0.f2 x.f2.f0 x.f2.f1 x.f2.f2) else (selvedgelaw15_CutFeeds.j0 k x.f1 x.f3 t226 (decide ((x.f0.f2.length : Int) > 300)) x.f0.f0 x.f0.f1 x.f0.f2 x.f2.f0 x.f2.f1 x.f2.f2))) ?_).of_eq fun k => by unfold selvedgelaw15_CutFeeds.f; rfl
  by_cases h : (x.f1.length : Int) > 300
  · exact (hj true).of_eq fun k => by rw [if_pos h]
  · exact (hj _).of_eq fun k => by rw [if_neg h]

end Go.Proofs.Ytefdokolbdnjnaa.Pure
