/- Proved: the pure half of the law CutPrefix of chapter 15 (what the walked program computes is 'true'). Conditions: those of its row, no other. -/
import Derived.Test.YtiknkkkfkifahaaArgCutPrefix
import Derived.Test.YtiknkkkfkifahaaEk
import Derived.IntWalk
import Derived.KernelRfl
namespace Go.Proofs.Ytiknkkkfkifahaa.Pure
open Go.IntWalk Go.RowKit Go.Proofs.Ytiknkkkfkifahaa.PCutPrefix Go.Proofs.YtiknkkkfkifahaaW.PrintWords Go.Proofs.YtiknkkkfkifahaaW.PrintLast Go.Proofs.Ytiknkkkfkifahaa.Ek
set_option linter.unusedSimpArgs false
set_option linter.unusedVariables false

theorem wr_in (x : Int) : -9223372036854775808 ≤ wrap64 x ∧ wrap64 x ≤ 9223372036854775807 := by
  unfold wrap64
  omega
theorem wfI {n : Int} (h : (Lit.int .i64 n).wf = true) : -9223372036854775808 ≤ n ∧ n ≤ 9223372036854775807 := by
  simp [Lit.wf, IntKind.min, IntKind.max, IntKind.signed, IntKind.bits] at h
  omega
theorem rds {l : List ByteArray} {i : Nat} (h : i < l.length) : rdOf ByteArray.empty l (i : Int) = l[i] := by
  unfold rdOf
  rw [Int.toNat_natCast, List.getD_eq_getElem?_getD, List.getElem?_eq_getElem h]
  rfl
theorem succ_ok {i n : Nat} (h : i < n) (hn : n ≤ 1000000000) : wrap64 ((i : Int) + 1) = ((i + 1 : Nat) : Int) := by rw [wrap64_in _ (by omega)]; omega
def total : List ByteArray → Nat
  | [] => 0
  | t :: l => t.size + total l
theorem total_app (l m : List ByteArray) : total (l ++ m) = total l + total m := by
  induction l with
  | nil => simp [total]
  | cons t l ih => simp only [List.cons_append, total, ih]; omega
theorem len_sizes (l : List ByteArray) : l.length ≤ Sa.sizes l := by
  induction l with
  | nil => exact Nat.le_refl _
  | cons t l ih => simp only [List.length_cons, Sa.sizes]; omega
theorem sizes_app (l m : List ByteArray) : Sa.sizes (l ++ m) = Sa.sizes l + Sa.sizes m := by
  induction l with
  | nil => simp [Sa.sizes]
  | cons t l ih => simp only [List.cons_append, Sa.sizes, ih]; omega
theorem sizes_bulk (l : List ByteArray) : Sa.sizes l ≤ 9 * (l.map (fun s : ByteArray => s.size + 1)).sum := by
  induction l with
  | nil => simp [Sa.sizes]
  | cons t l ih => simp only [List.map_cons, List.sum_cons, Sa.sizes]; omega
def fitC (w : List ByteArray) (t : ByteArray) : Bool := decide (w.length = 0 ∨ (w.length < 6 ∧ total w + t.size ≤ 128))
theorem mn_n (x : Nat) : mn (x : Int) 129 = ((min x 129 : Nat) : Int) := by unfold mn; split <;> omega
theorem size_l (l : List ByteArray) (hl : l.length ≤ 1000000000) : ∀ (m i a : Nat), i + m = l.length → Evk (fun k => cut_size.l0 k ((min a 129 : Nat) : Int) l (l.length : Int) (i : Int)) ((min (a + total (l.drop i)) 129 : Nat) : Int)
  | 0, i, a, hi => by
    refine (Evk.ret _).step fun k => ?_
    rw [cut_size.l0, if_neg (by omega), List.drop_of_length_le (by omega)]
    rfl
  | m + 1, i, a, hi => by
    have hlt : i < l.length := by omega
    have ih := size_l l hl m (i + 1) (a + l[i].size) (by omega)
    rw [List.drop_eq_getElem_cons hlt, total]
    rw [Nat.add_assoc] at ih
    refine ih.step fun k => ?_
    have e : mn (wrap64 (((min a 129 : Nat) : Int) + mn (l[i].size : Int) 129)) 129 = ((min (a + l[i].size) 129 : Nat) : Int) := by
      rw [mn_n, wrap64_in _ (by omega), show ((min a 129 : Nat) : Int) + ((min l[i].size 129 : Nat) : Int) = ((min a 129 + min l[i].size 129 : Nat) : Int) by omega, mn_n]
      omega
    rw [cut_size.l0, if_pos (by omega), if_pos (by omega), if_pos (by omega), rds hlt, succ_ok hlt hl, e]
theorem size_ev (l : List ByteArray) (hl : l.length ≤ 1000000000) : Evk (fun k => cut_size.f k l) ((min (total l) 129 : Nat) : Int) := by
  have h := size_l l hl l.length 0 0 (by omega)
  rw [List.drop_zero, Nat.zero_add] at h
  exact h.of_eq fun k => by unfold cut_size.f; rfl
theorem and_is (w : List ByteArray) (t : ByteArray) (hw : w.length ≤ 1000000000) : cut_and.f w t = some (w ++ [t]) := by
  unfold cut_and.f slices_Clone_string_string.f
  rw [if_pos (by omega), Option.bind_some, if_pos (by omega)]
theorem fits_ev (w : List ByteArray) (t : ByteArray) (hw : w.length ≤ 100000000) : Evk (fun k => cut_Fits.f k w t) (fitC w t) := by
  unfold fitC
  by_cases h0 : w.length = 0
  · rw [decide_eq_true (.inl h0)]
    exact Evk.const fun k => by unfold cut_Fits.f; rw [if_pos (by omega)]
  · by_cases h6 : w.length < 6
    · have h := size_ev (w ++ [t]) (by rw [List.length_append]; simp; omega)
      refine (h.bind (g := fun _ t111 => some (decide (t111 ≤ 128))) (Evk.const fun k => ?_)).of_eq fun k => by unfold cut_Fits.f; rw [if_neg (by omega), if_pos (by omega), and_is w t (by omega), Option.bind_some]
      rw [Option.some.injEq, decide_eq_decide, total_app]
      simp only [total]
      omega
    · rw [decide_eq_false (by omega)]
      exact Evk.const fun k => by unfold cut_Fits.f; rw [if_neg (by omega), if_neg (by omega)]
abbrev St := Int × ByteArray × List ByteArray × List S25
def stepC (s : St) (t : ByteArray) : St := if fitC s.2.2.1 t = true then (s.1, s.2.1, s.2.2.1 ++ [t], s.2.2.2) else (wrap64 (s.1 + 1), Sa.digB s.1 s.2.1 s.2.2.1, [t], s.2.2.2 ++ [(⟨s.1, s.2.1, s.2.2.1⟩ : S25)])
def feedC (s : St) (ts : List ByteArray) : St := ts.foldl stepC s
def flushC (s : Int × ByteArray × List ByteArray) : St := if s.2.2.length = 0 then (s.1, s.2.1, s.2.2, []) else (wrap64 (s.1 + 1), Sa.digB s.1 s.2.1 s.2.2, [], [(⟨s.1, s.2.1, s.2.2⟩ : S25)])
/-- A cutter whose texts aren't too long. -/
def OkC (n : Int) (p : ByteArray) (w : List ByteArray) (b : Nat) : Prop := -9223372036854775808 ≤ n ∧ n ≤ 9223372036854775807 ∧ p.size ≤ 1048576 ∧ Sa.sizes w ≤ b
theorem dig32 (n : Int) (p : ByteArray) (l : List ByteArray) : (Sa.digB n p l).size = 32 := by
  unfold Sa.digB
  exact Sm.sumB_size _
theorem flush_is (n : Int) (p : ByteArray) (w : List ByteArray) (h : OkC n p w 100000000) : cut_Flush.f n p w = some (flushC (n, p, w)) := by
  obtain ⟨h1, h2, h3, h4⟩ := h
  have := len_sizes w
  unfold cut_Flush.f flushC
  by_cases h0 : w.length = 0
  · rw [if_pos h0, if_pos h0]
  · rw [if_neg h0, if_neg h0, if_pos ⟨h1, h2, by omega, by omega⟩]
theorem feed_l (ts : List ByteArray) (hl : ts.length ≤ 1000000000) : ∀ (m i : Nat) (n : Int) (p : ByteArray) (w : List ByteArray) (out : List S25), i + m = ts.length → OkC n p w 100000000 → Sa.sizes w + Sa.sizes (ts.drop i) ≤ 100000000 → out.length + m ≤ 100000000 →
    Evk (fun k => cut_Feed.l0 k out ts (ts.length : Int) (i : Int) n p w) (feedC (n, p, w, out) (ts.drop i))
  | 0, i, n, p, w, out, hi, ho, hs, hn => by
    refine (Evk.ret _).step fun k => ?_
    rw [cut_Feed.l0, if_neg (by omega), List.drop_of_length_le (by omega)]
    rfl
  | m + 1, i, n, p, w, out, hi, ho, hs, hn => by
    have hlt : i < ts.length := by omega
    have c1 : (i : Int) < (ts.length : Int) := by omega
    have c2 : 0 ≤ (i : Int) := by omega
    have hw := len_sizes w
    rw [List.drop_eq_getElem_cons hlt, Sa.sizes] at hs
    rw [List.drop_eq_getElem_cons hlt]
    show Evk _ (feedC (stepC (n, p, w, out) ts[i]) (ts.drop (i + 1)))
    have hf := fits_ev w ts[i] (by omega)
    have hsn : Sa.sizes (w ++ [ts[i]]) = Sa.sizes w + (ts[i].size + 9) := by rw [sizes_app]; rfl
    obtain ⟨o1, o2, o3, o4⟩ := ho
    have hw1 := succ_ok hlt hl
    refine Evk.step (hf.bind (g := fun k t115 => (if t115 = true then ((cut_and.f w ts[i]).bind fun t116 => (cut_Feed.l0 k out ts (ts.length : Int) ((i + 1 : Nat) : Int) n p t116)) else ((cut_Flush.f n p w).bind fun bt119 => (if out.length + bt119.2.2.2.length < 2932031007402 then ((cut_and.f bt119.2.2.1 ts[i]).bind fun t131 => (cut_Feed.l0 k (out ++ bt119.2.2.2) ts (ts.length : Int) ((i + 1 : Nat) : Int) bt119.1 bt119.2.1 t131)) else (none))))) ?_) fun k => by rw [cut_Feed.l0, if_pos c1, if_pos c2, if_pos c1, rds hlt, hw1]
    unfold stepC
    by_cases hfit : fitC w ts[i] = true
    · have ih := feed_l ts hl m (i + 1) n p (w ++ [ts[i]]) out (by omega) ⟨o1, o2, o3, by omega⟩ (by omega) (by omega)
      rw [if_pos hfit]
      exact ih.of_eq fun k => by rw [if_pos hfit, and_is w ts[i] (by omega), Option.bind_some]
    · have hne : ¬ w.length = 0 := fun h => hfit (decide_eq_true (.inl h))
      have hdr : Sa.sizes [ts[i]] = ts[i].size + 9 := rfl
      have ih := feed_l ts hl m (i + 1) (wrap64 (n + 1)) (Sa.digB n p w) [ts[i]] (out ++ [(⟨n, p, w⟩ : S25)]) (by omega) ⟨(wr_in _).1, (wr_in _).2, by rw [dig32]; omega, by omega⟩ (by omega) (by rw [List.length_append]; simp; omega)
      rw [if_neg hfit]
      refine ih.of_eq fun k => ?_
      have e : flushC (n, p, w) = (wrap64 (n + 1), Sa.digB n p w, [], [(⟨n, p, w⟩ : S25)]) := if_neg hne
      rw [if_neg hfit, flush_is n p w ⟨o1, o2, o3, o4⟩, Option.bind_some, e]
      dsimp only
      rw [if_pos (by simp; omega), and_is _ _ (by simp), Option.bind_some]
      rfl
theorem feed_ev (n : Int) (p : ByteArray) (w ts : List ByteArray) (ho : OkC n p w 50000000) (hs : Sa.sizes ts ≤ 50000000) : Evk (fun k => cut_Feed.f k n p w ts) (feedC (n, p, w, []) ts) := by
  have hl := len_sizes ts
  have h := feed_l ts (by omega) ts.length 0 n p w [] (by omega) ⟨ho.1, ho.2.1, ho.2.2.1, by have := ho.2.2.2; omega⟩ (by rw [List.drop_zero]; have := ho.2.2.2; omega) (by simp; omega)
  rw [List.drop_zero] at h
  exact h.of_eq fun k => by unfold cut_Feed.f; rfl
theorem feed_ok : ∀ (ts : List ByteArray) (s : St) (b : Nat), OkC s.1 s.2.1 s.2.2.1 b → OkC (feedC s ts).1 (feedC s ts).2.1 (feedC s ts).2.2.1 (b + Sa.sizes ts) ∧ (feedC s ts).2.2.2.length ≤ s.2.2.2.length + ts.length
  | [], s, b, h => ⟨h, by show s.2.2.2.length ≤ _; omega⟩
  | t :: ts, s, b, h => by
    obtain ⟨h1, h2, h3, h4⟩ := h
    have st : OkC (stepC s t).1 (stepC s t).2.1 (stepC s t).2.2.1 (b + (t.size + 9)) ∧ (stepC s t).2.2.2.length ≤ s.2.2.2.length + 1 := by
      unfold stepC
      by_cases hf : fitC s.2.2.1 t = true
      · rw [if_pos hf]
        exact ⟨⟨h1, h2, h3, by show Sa.sizes (s.2.2.1 ++ [t]) ≤ _; rw [sizes_app]; show _ + (t.size + 9 + 0) ≤ _; omega⟩, by show s.2.2.2.length ≤ _; omega⟩
      · rw [if_neg hf]
        exact ⟨⟨(wr_in _).1, (wr_in _).2, by show (Sa.digB _ _ _).size ≤ _; rw [dig32]; omega, by show t.size + 9 + 0 ≤ _; omega⟩, by simp⟩
    have ih := feed_ok ts (stepC s t) (b + (t.size + 9)) st.1
    refine ⟨?_, ?_⟩
    · have := ih.1
      rw [show b + (t.size + 9) + Sa.sizes ts = b + Sa.sizes (t :: ts) by simp only [Sa.sizes]; omega] at this
      exact this
    · have := ih.2
      have h5 := st.2
      show (feedC (stepC s t) ts).2.2.2.length ≤ _
      rw [List.length_cons]
      omega
theorem shown_ev : Evk (fun k => selvedgelaw15_shown.f k) true := by
  have h := feed_ev 0 (⟨#[]⟩ : ByteArray) [] [(⟨#[49]⟩ : ByteArray), (⟨#[50]⟩ : ByteArray), (⟨#[51]⟩ : ByteArray), (⟨#[52]⟩ : ByteArray), (⟨#[53]⟩ : ByteArray), (⟨#[54]⟩ : ByteArray), (⟨#[55]⟩ : ByteArray)] ⟨by decide, by decide, by decide, by decide⟩ (by decide)
  have e : feedC (0, (⟨#[]⟩ : ByteArray), [], []) [(⟨#[49]⟩ : ByteArray), (⟨#[50]⟩ : ByteArray), (⟨#[51]⟩ : ByteArray), (⟨#[52]⟩ : ByteArray), (⟨#[53]⟩ : ByteArray), (⟨#[54]⟩ : ByteArray), (⟨#[55]⟩ : ByteArray)] = (1, Sa.digB 0 (⟨#[]⟩ : ByteArray) [(⟨#[49]⟩ : ByteArray), (⟨#[50]⟩ : ByteArray), (⟨#[51]⟩ : ByteArray), (⟨#[52]⟩ : ByteArray), (⟨#[53]⟩ : ByteArray), (⟨#[54]⟩ : ByteArray)], [(⟨#[55]⟩ : ByteArray)], [(⟨0, (⟨#[]⟩ : ByteArray), [(⟨#[49]⟩ : ByteArray), (⟨#[50]⟩ : ByteArray), (⟨#[51]⟩ : ByteArray), (⟨#[52]⟩ : ByteArray), (⟨#[53]⟩ : ByteArray), (⟨#[54]⟩ : ByteArray)]⟩ : S25)]) := by
    kernel_rfl
  rw [e] at h
  refine (h.bind (g := fun k bt137 => ((cut_Flush.f bt137.1 bt137.2.1 bt137.2.2.1).bind fun bt146 => (if (bt137.2.2.2.length : Int) = 1 then (if 0 < (bt137.2.2.2.length : Int) then (if (((rd_T25 bt137.2.2.2 0).f2).length : Int) = 6 then (if (bt146.2.2.2.length : Int) = 1 then (if 0 < (bt146.2.2.2.length : Int) then (if (((rd_T25 bt146.2.2.2 0).f2).length : Int) = 1 then (some (bt146.1 == 2)) else (some false)) else (none)) else (some false)) else (some false)) else (none)) else (some false)))) (Evk.const fun k => ?_)).of_eq fun k => by unfold selvedgelaw15_shown.f; rfl
  have e2 := flush_is 1 (Sa.digB 0 (⟨#[]⟩ : ByteArray) [(⟨#[49]⟩ : ByteArray), (⟨#[50]⟩ : ByteArray), (⟨#[51]⟩ : ByteArray), (⟨#[52]⟩ : ByteArray), (⟨#[53]⟩ : ByteArray), (⟨#[54]⟩ : ByteArray)]) [(⟨#[55]⟩ : ByteArray)] ⟨by decide, by decide, by rw [dig32]; decide, by decide⟩
  generalize Sa.digB 0 (⟨#[]⟩ : ByteArray) [(⟨#[49]⟩ : ByteArray), (⟨#[50]⟩ : ByteArray), (⟨#[51]⟩ : ByteArray), (⟨#[52]⟩ : ByteArray), (⟨#[53]⟩ : ByteArray), (⟨#[54]⟩ : ByteArray)] = D at e2
  dsimp only
  have e3 : flushC (1, D, [(⟨#[55]⟩ : ByteArray)]) = (2, Sa.digB 1 D [(⟨#[55]⟩ : ByteArray)], [], [(⟨1, D, [(⟨#[55]⟩ : ByteArray)]⟩ : S25)]) := by
    unfold flushC
    rw [if_neg (by show ¬ (1 = 0); decide)]
    dsimp only
    rw [wrap64_in (1 + 1) (by omega)]
    rfl
  rw [e2, Option.bind_some, e3]
  generalize Sa.digB 1 D [(⟨#[55]⟩ : ByteArray)] = F
  simp [rd_T25]
theorem same_l (l : List ByteArray) (hl : l.length ≤ 1000000000) : ∀ (m i : Nat), i + m = l.length → Evk (fun k => selvedgeref01_Same.l0 k l l (i : Int)) true
  | 0, i, hi => (Evk.ret _).step fun k => by rw [selvedgeref01_Same.l0, if_neg (by omega)]
  | m + 1, i, hi => by
    have hlt : i < l.length := by omega
    refine (same_l l hl m (i + 1) (by omega)).step fun k => ?_
    rw [selvedgeref01_Same.l0, if_pos (by omega), if_pos (by omega), if_pos (by omega), if_pos rfl, succ_ok hlt hl]
theorem same_ev (l : List ByteArray) (hl : l.length ≤ 1000000000) : Evk (fun k => selvedgeref01_Same.f k l l) true :=
  (same_l l hl l.length 0 (by omega)).of_eq fun k => by unfold selvedgeref01_Same.f; rw [if_pos rfl]; rfl
theorem rd40 {l : List S25} {i : Nat} (h : i < l.length) : rd_T25 l (i : Int) = l.getD i z25 := by
  unfold rd_T25
  rw [Int.toNat_natCast]
theorem blocks_l (l : List S25) (hl : l.length ≤ 1000000000) (hs : ∀ x ∈ l, x.f2.length ≤ 1000000000) : ∀ (m i : Nat), i + m = l.length → Evk (fun k => selvedgeref15_Blocks.l0 k l l (i : Int)) true
  | 0, i, hi => (Evk.ret _).step fun k => by rw [selvedgeref15_Blocks.l0, if_neg (by omega)]
  | m + 1, i, hi => by
    have hlt : i < l.length := by omega
    have hin : l.getD i z25 ∈ l := by rw [List.getD_eq_getElem?_getD, List.getElem?_eq_getElem hlt]; exact List.getElem_mem hlt
    have ih := blocks_l l hl hs m (i + 1) (by omega)
    have w1 := succ_ok hlt hl
    refine Evk.step ((same_ev (l.getD i z25).f2 (hs _ hin)).bind (g := fun k t164 => (if t164 = true then (selvedgeref15_Blocks.l0 k l l ((i + 1 : Nat) : Int)) else (some false))) (ih.of_eq fun k => by rw [if_pos rfl])) fun k => ?_
    rw [selvedgeref15_Blocks.l0, if_pos (by omega), if_pos (by omega), if_pos (by omega), rd40 hlt, if_pos rfl, if_pos rfl, w1]
theorem blocks_ev (l : List S25) (hl : l.length ≤ 1000000000) (hs : ∀ x ∈ l, x.f2.length ≤ 1000000000) : Evk (fun k => selvedgeref15_Blocks.f k l l) true :=
  (blocks_l l hl hs l.length 0 (by omega)).of_eq fun k => by unfold selvedgeref15_Blocks.f; rw [if_pos rfl]; rfl
theorem step_out (n : Int) (p : ByteArray) (w : List ByteArray) (out : List S25) (t : ByteArray) : stepC (n, p, w, out) t = ((stepC (n, p, w, []) t).1, (stepC (n, p, w, []) t).2.1, (stepC (n, p, w, []) t).2.2.1, out ++ (stepC (n, p, w, []) t).2.2.2) := by
  unfold stepC
  by_cases hf : fitC w t = true
  · rw [if_pos hf, if_pos hf, List.append_nil]
  · rw [if_neg hf, if_neg hf]
    rfl
theorem feed_out : ∀ (ts : List ByteArray) (n : Int) (p : ByteArray) (w : List ByteArray) (out : List S25), feedC (n, p, w, out) ts = ((feedC (n, p, w, []) ts).1, (feedC (n, p, w, []) ts).2.1, (feedC (n, p, w, []) ts).2.2.1, out ++ (feedC (n, p, w, []) ts).2.2.2)
  | [], n, p, w, out => by
    show (n, p, w, out) = (n, p, w, out ++ [])
    rw [List.append_nil]
  | t :: ts, n, p, w, out => by
    show feedC (stepC (n, p, w, out) t) ts = ((feedC (stepC (n, p, w, []) t) ts).1, (feedC (stepC (n, p, w, []) t) ts).2.1, (feedC (stepC (n, p, w, []) t) ts).2.2.1, out ++ (feedC (stepC (n, p, w, []) t) ts).2.2.2)
    rw [step_out n p w out t]
    generalize stepC (n, p, w, []) t = s
    obtain ⟨n1, p1, w1, o1⟩ := s
    rw [feed_out ts n1 p1 w1 (out ++ o1), feed_out ts n1 p1 w1 o1, List.append_assoc]
theorem feed_app (s : St) (a b : List ByteArray) : feedC s (a ++ b) = feedC (feedC s a) b := List.foldl_append
def bkOf (l : List S25) : List Sa.Bk := l.map fun x => (x.f0, x.f1, x.f2)
def flatC (out : List S25) : List ByteArray := out.flatMap fun x => x.f2
def nxt : Int → ByteArray → List S25 → Option (Int × ByteArray)
  | n, p, [] => some (n, p)
  | n, p, b :: l => if b.f0 = n ∧ b.f1 = p then nxt (wrap64 (n + 1)) (Sa.digB b.f0 b.f1 b.f2) l else none
theorem nxt_snoc : ∀ (l : List S25) (n : Int) (p : ByteArray) (n1 : Int) (p1 : ByteArray) (w : List ByteArray), nxt n p l = some (n1, p1) → nxt n p (l ++ [(⟨n1, p1, w⟩ : S25)]) = some (wrap64 (n1 + 1), Sa.digB n1 p1 w)
  | [], n, p, n1, p1, w, h => by
    obtain ⟨rfl, rfl⟩ := Prod.mk.inj (Option.some.inj h)
    show (if n = n ∧ p = p then nxt (wrap64 (n + 1)) (Sa.digB n p w) [] else none) = _
    rw [if_pos ⟨rfl, rfl⟩]
    rfl
  | b :: l, n, p, n1, p1, w, h => by
    unfold nxt at h
    show (if b.f0 = n ∧ b.f1 = p then nxt (wrap64 (n + 1)) (Sa.digB b.f0 b.f1 b.f2) (l ++ [(⟨n1, p1, w⟩ : S25)]) else none) = _
    by_cases hc : b.f0 = n ∧ b.f1 = p
    · rw [if_pos hc] at h ⊢
      exact nxt_snoc l _ _ n1 p1 w h
    · rw [if_neg hc] at h; cases h
theorem ch_nxt : ∀ (l : List S25) (n : Int) (p : ByteArray) (s : Int × ByteArray), nxt n p l = some s → Sa.chB n p (bkOf l) = true
  | [], _, _, _, _ => rfl
  | b :: l, n, p, s, h => by
    unfold nxt at h
    by_cases hc : b.f0 = n ∧ b.f1 = p
    · rw [if_pos hc] at h
      show (if b.f0 = n ∧ b.f1.toList = p.toList then Sa.chB (wrap64 (n + 1)) (Sa.digB b.f0 b.f1 b.f2) (bkOf l) else false) = true
      rw [if_pos ⟨hc.1, by rw [hc.2]⟩]
      exact ch_nxt l _ _ s h
    · rw [if_neg hc] at h; cases h
/-- A row that may be a block's. -/
def Row6 (w : List ByteArray) : Prop := w.length ≤ 6 ∧ (1 < w.length → total w ≤ 128)
structure Inv (s : St) (fed : List ByteArray) : Prop where
  i1 : flatC s.2.2.2 ++ s.2.2.1 = fed
  i2 : ∀ b ∈ s.2.2.2, 1 ≤ b.f2.length ∧ Row6 b.f2
  i3 : Row6 s.2.2.1
  i4 : nxt 0 (⟨#[]⟩ : ByteArray) s.2.2.2 = some (s.1, s.2.1)
  i5 : s.1 = (s.2.2.2.length : Int)
  i6 : s.2.1.size ≤ 32
theorem flat_len : ∀ {out : List S25}, (∀ b ∈ out, 1 ≤ b.f2.length ∧ Row6 b.f2) → out.length ≤ (flatC out).length
  | [], _ => Nat.le_refl _
  | b :: l, h => by
    have ih := flat_len (out := l) (fun x hx => h x (by simp [hx]))
    have := (h b (by simp)).1
    show _ ≤ (b.f2 ++ flatC l).length
    rw [List.length_append, List.length_cons]
    omega
theorem Inv.len {s : St} {fed : List ByteArray} (h : Inv s fed) : s.2.2.2.length + s.2.2.1.length ≤ fed.length := by
  have h1 := flat_len h.i2
  have h2 := congrArg List.length h.i1
  rw [List.length_append] at h2
  omega
theorem Inv.sizes {s : St} {fed : List ByteArray} (h : Inv s fed) : Sa.sizes s.2.2.1 ≤ Sa.sizes fed := by
  rw [← h.i1, sizes_app]
  omega
theorem Inv.ok {s : St} {fed : List ByteArray} (h : Inv s fed) (hl : fed.length ≤ 1000000000) : OkC s.1 s.2.1 s.2.2.1 (Sa.sizes fed) := by
  have h1 := h.len
  have h5 := h.i5
  have h6 := h.i6
  exact ⟨by omega, by omega, by omega, h.sizes⟩
theorem inv_cut {n : Int} {p : ByteArray} {w : List ByteArray} {out : List S25} {fed : List ByteArray} (h : Inv (n, p, w, out) fed) (hl : fed.length ≤ 1000000000) (h0 : 1 ≤ w.length) (v : List ByteArray) (hv : Row6 v) : Inv (wrap64 (n + 1), Sa.digB n p w, v, out ++ [(⟨n, p, w⟩ : S25)]) (fed ++ v) := by
  have h5 : n = (out.length : Int) := h.i5
  have hln : out.length + w.length ≤ fed.length := h.len
  refine ⟨?_, ?_, hv, nxt_snoc out _ _ n p w h.i4, ?_, by rw [dig32]; omega⟩
  · show flatC (out ++ [(⟨n, p, w⟩ : S25)]) ++ v = fed ++ v
    have e : flatC (out ++ [(⟨n, p, w⟩ : S25)]) = flatC out ++ w := by
      unfold flatC
      rw [List.flatMap_append]
      simp
    rw [e, show flatC out ++ w = fed from h.i1]
  · intro b hb
    rcases List.mem_append.1 hb with hb | hb
    · exact h.i2 b hb
    · have := List.mem_singleton.1 hb
      subst this
      exact ⟨h0, h.i3⟩
  · show wrap64 (n + 1) = ((out ++ [(⟨n, p, w⟩ : S25)]).length : Int)
    rw [List.length_append, wrap64_in _ (by omega)]
    simp only [List.length_cons, List.length_nil]
    omega
theorem inv_step {s : St} {fed : List ByteArray} (h : Inv s fed) (hl : fed.length ≤ 1000000000) (t : ByteArray) : Inv (stepC s t) (fed ++ [t]) := by
  obtain ⟨n, p, w, out⟩ := s
  unfold stepC
  by_cases hf : fitC w t = true
  · rw [if_pos hf]
    have hf' := of_decide_eq_true hf
    refine ⟨?_, h.i2, ?_, h.i4, h.i5, h.i6⟩
    · show flatC out ++ (w ++ [t]) = fed ++ [t]
      rw [← List.append_assoc, show flatC out ++ w = fed from h.i1]
    · show (w ++ [t]).length ≤ 6 ∧ (1 < (w ++ [t]).length → total (w ++ [t]) ≤ 128)
      rw [List.length_append, total_app]
      simp only [List.length_cons, List.length_nil, total]
      omega
  · rw [if_neg hf]
    have h0 : 1 ≤ w.length := by
      have hne : ¬ w.length = 0 := fun e => hf (decide_eq_true (.inl e))
      omega
    exact inv_cut h hl h0 [t] ⟨by simp, by simp⟩
theorem inv_feed : ∀ (ts : List ByteArray) (s : St) (fed : List ByteArray), Inv s fed → (fed ++ ts).length ≤ 1000000000 → Inv (feedC s ts) (fed ++ ts)
  | [], s, fed, h, _ => by rw [List.append_nil]; exact h
  | t :: ts, s, fed, h, hl => by
    rw [List.length_append, List.length_cons] at hl
    have := inv_feed ts (stepC s t) (fed ++ [t]) (inv_step h (by omega) t) (by simp; omega)
    rw [List.append_assoc] at this
    exact this
def flushO (s : St) : St := ((flushC (s.1, s.2.1, s.2.2.1)).1, (flushC (s.1, s.2.1, s.2.2.1)).2.1, (flushC (s.1, s.2.1, s.2.2.1)).2.2.1, s.2.2.2 ++ (flushC (s.1, s.2.1, s.2.2.1)).2.2.2)
theorem inv_flush {s : St} {fed : List ByteArray} (h : Inv s fed) (hl : fed.length ≤ 1000000000) : Inv (flushO s) fed := by
  obtain ⟨n, p, w, out⟩ := s
  unfold flushO flushC
  dsimp only
  by_cases h0 : w.length = 0
  · rw [if_pos h0]
    dsimp only
    rw [List.append_nil]
    exact h
  · rw [if_neg h0]
    have := inv_cut h hl (by omega) [] ⟨by simp, by simp⟩
    rw [List.append_nil] at this
    exact this
theorem inv_0 : Inv (0, (⟨#[]⟩ : ByteArray), [], []) [] := ⟨rfl, (by intro b hb; cases hb), ⟨by decide, by decide⟩, rfl, rfl, by decide⟩
def runC (s : St) (x : S42) : St := if x.f1 = true then flushO (feedC s x.f0) else feedC s x.f0
def fedC (l : List S42) : List ByteArray := l.flatMap fun x => x.f0
theorem inv_run {s : St} {fed : List ByteArray} (h : Inv s fed) (x : S42) (hl : (fed ++ x.f0).length ≤ 1000000000) : Inv (runC s x) (fed ++ x.f0) := by
  have hf := inv_feed x.f0 s fed h hl
  unfold runC
  split
  · exact inv_flush hf hl
  · exact hf
theorem rd56 {l : List S42} {i : Nat} (h : i < l.length) : rd_T42 l (i : Int) = l[i] := by
  unfold rd_T42
  rw [Int.toNat_natCast, List.getD_eq_getElem?_getD, List.getElem?_eq_getElem h]
  rfl
theorem runs_l (l : List S42) (hl : l.length ≤ 1000000) (hs : Sa.sizes (fedC l) ≤ 50000000) : ∀ (m i : Nat) (s : St), i + m = l.length → Inv s (fedC (l.take i)) →
    Evk (fun k => selvedgelaw15_runs.l0 k l s.2.2.2 (i : Int) s.1 s.2.1 s.2.2.1) (((l.drop i).foldl runC s).2.2.2, ((l.drop i).foldl runC s).1, ((l.drop i).foldl runC s).2.1, ((l.drop i).foldl runC s).2.2.1)
  | 0, i, s, hi, h => (Evk.ret _).step fun k => by
      rw [selvedgelaw15_runs.l0, if_neg (by omega), List.drop_of_length_le (by omega)]
      rfl
  | m + 1, i, s, hi, h => by
    have hlt : i < l.length := by omega
    have c1 : (i : Int) < (l.length : Int) := by omega
    have c2 : 0 ≤ (i : Int) := by omega
    have w1 := succ_ok hlt (by omega)
    have ef : fedC (l.take (i + 1)) = fedC (l.take i) ++ l[i].f0 := by
      unfold fedC
      rw [List.take_succ_eq_append_getElem hlt, List.flatMap_append]
      simp
    have et : fedC l = fedC (l.take i) ++ (l[i].f0 ++ fedC (l.drop (i + 1))) := by
      have : l = l.take i ++ (l[i] :: l.drop (i + 1)) := by rw [← List.drop_eq_getElem_cons hlt, List.take_append_drop]
      unfold fedC
      conv => lhs; rw [this]
      rw [List.flatMap_append, List.flatMap_cons]
    have hsz : Sa.sizes (fedC (l.take i)) + Sa.sizes l[i].f0 ≤ 50000000 := by
      rw [et, sizes_app, sizes_app] at hs
      omega
    have hl1 := len_sizes (fedC (l.take i))
    have hl2 := len_sizes l[i].f0
    have hlen : (fedC (l.take i) ++ l[i].f0).length ≤ 1000000000 := by rw [List.length_append]; omega
    have ih := runs_l l hl hs m (i + 1) (runC s l[i]) (by omega) (by rw [ef]; exact inv_run h l[i] hlen)
    have ok := h.ok (by omega)
    have hin := inv_feed l[i].f0 s _ h hlen
    have okf := hin.ok hlen
    have hfl := hin.len
    obtain ⟨n, p, w, out⟩ := s
    dsimp only at ok
    have fe := feed_ev n p w l[i].f0 ⟨ok.1, ok.2.1, ok.2.2.1, by have := ok.2.2.2; omega⟩ (by omega)
    have fo := feed_out l[i].f0 n p w out
    rw [List.drop_eq_getElem_cons hlt, List.foldl_cons]
    refine Evk.step (fe.bind (g := fun k bt160 => (if out.length + bt160.2.2.2.length < 2932031007402 then ((some (out ++ bt160.2.2.2 : List (S25))).bind fun y169 => (if l[i].f1 = true then ((cut_Flush.f bt160.1 bt160.2.1 bt160.2.2.1).bind fun bt173 => (if y169.length + bt173.2.2.2.length < 2932031007402 then (selvedgelaw15_runs.l0 k l (y169 ++ bt173.2.2.2) ((i + 1 : Nat) : Int) bt173.1 bt173.2.1 bt173.2.2.1) else (none))) else (selvedgelaw15_runs.l0 k l y169 ((i + 1 : Nat) : Int) bt160.1 bt160.2.1 bt160.2.2.1))) else (none))) ?_) fun k => by rw [selvedgelaw15_runs.l0, if_pos c1, if_pos c2, rd56 hlt, w1]
    unfold runC at ih ⊢
    rw [fo] at hfl okf
    rw [fo] at ih ⊢
    rw [sizes_app] at okf
    rw [List.length_append] at hfl
    generalize feedC (n, p, w, []) l[i].f0 = r at ih hfl okf ⊢
    obtain ⟨n1, p1, w1', m1⟩ := r
    dsimp only at hfl okf
    rw [List.length_append] at hfl
    by_cases hb : l[i].f1 = true
    · rw [if_pos hb] at ih ⊢
      refine ih.of_eq fun k => ?_
      have hfs : (flushC (n1, p1, w1')).2.2.2.length ≤ 1 := by
        unfold flushC
        split
        · exact Nat.zero_le _
        · exact Nat.le_refl _
      dsimp only
      rw [if_pos (by omega), Option.bind_some, if_pos hb, flush_is n1 p1 w1' ⟨okf.1, okf.2.1, okf.2.2.1, by have := okf.2.2.2; omega⟩, Option.bind_some, if_pos (by rw [List.length_append]; omega)]
      rfl
    · rw [if_neg hb] at ih ⊢
      refine ih.of_eq fun k => ?_
      dsimp only
      rw [if_pos (by omega), Option.bind_some, if_neg hb]
def resC (l : List S42) : St := l.foldl runC (0, (⟨#[]⟩ : ByteArray), [], [])
theorem runs_ev (l : List S42) (hl : l.length ≤ 1000000) (hs : Sa.sizes (fedC l) ≤ 50000000) : Evk (fun k => selvedgelaw15_runs.f k l) ((resC l).2.2.2, (resC l).1, (resC l).2.1, (resC l).2.2.1) := by
  have h := runs_l l hl hs l.length 0 (0, (⟨#[]⟩ : ByteArray), [], []) (by omega) inv_0
  rw [List.drop_zero] at h
  exact h.of_eq fun k => by unfold selvedgelaw15_runs.f; rfl
theorem inv_runs : ∀ (l : List S42) (s : St) (fed : List ByteArray), Inv s fed → (fed ++ fedC l).length ≤ 1000000000 → Inv (l.foldl runC s) (fed ++ fedC l)
  | [], s, fed, h, _ => by
    show Inv s (fed ++ [])
    rw [List.append_nil]
    exact h
  | x :: l, s, fed, h, hl => by
    have e : fedC (x :: l) = x.f0 ++ fedC l := by unfold fedC; rw [List.flatMap_cons]
    rw [e, ← List.append_assoc] at hl ⊢
    exact inv_runs l (runC s x) (fed ++ x.f0) (inv_run h x (by rw [List.length_append] at hl; omega)) hl
theorem bulk56 (l : List S42) : Sa.sizes (fedC l) ≤ 9 * (l.map B42).sum := by
  induction l with
  | nil => exact Nat.zero_le _
  | cons x l ih =>
    have e : fedC (x :: l) = x.f0 ++ fedC l := by unfold fedC; rw [List.flatMap_cons]
    have h1 := sizes_bulk x.f0
    have h2 : B42 x = ((x.f0.map (fun s : ByteArray => s.size + 1)).sum + 1) + 1 + 1 := rfl
    rw [e, sizes_app, List.map_cons, List.sum_cons]
    omega
theorem run_pre (s : St) (x : S42) : ∃ more, (runC s x).2.2.2 = s.2.2.2 ++ more := by
  obtain ⟨n, p, w, out⟩ := s
  have fo := feed_out x.f0 n p w out
  unfold runC
  split
  · refine ⟨(feedC (n, p, w, []) x.f0).2.2.2 ++ (flushC ((feedC (n, p, w, out) x.f0).1, (feedC (n, p, w, out) x.f0).2.1, (feedC (n, p, w, out) x.f0).2.2.1)).2.2.2, ?_⟩
    show (feedC (n, p, w, out) x.f0).2.2.2 ++ _ = _
    rw [← List.append_assoc]
    congr 1
    rw [fo]
  · exact ⟨(feedC (n, p, w, []) x.f0).2.2.2, by rw [fo]⟩
theorem fold_pre : ∀ (l : List S42) (s : St), ∃ more, (l.foldl runC s).2.2.2 = s.2.2.2 ++ more
  | [], s => ⟨[], (List.append_nil _).symm⟩
  | x :: l, s => by
    obtain ⟨m1, e1⟩ := run_pre s x
    obtain ⟨m2, e2⟩ := fold_pre l (runC s x)
    exact ⟨m1 ++ m2, by rw [List.foldl_cons, e2, e1, List.append_assoc]⟩
theorem flat_mem : ∀ (out : List S25) (x : S25), x ∈ out → x.f2.length ≤ (flatC out).length
  | [], x, h => by simp at h
  | y :: out, x, h => by
    have e : flatC (y :: out) = y.f2 ++ flatC out := by unfold flatC; rw [List.flatMap_cons]
    rw [e, List.length_append]
    rcases List.mem_cons.1 h with rfl | h
    · omega
    · have := flat_mem out x h; omega
theorem CutPrefix : selvedgelaw15_CutPrefix.Pure := by
  intro l m h1 h2 hB
  simp only at hB
  have b1 := bulk56 l
  have b2 := bulk56 m
  have bm : ∀ q : List S42, 3 * q.length ≤ (q.map B42).sum := by
    intro q
    induction q with
    | nil => exact Nat.le_refl _
    | cons x q ih =>
      have h2 : B42 x = ((x.f0.map (fun s : ByteArray => s.size + 1)).sum + 1) + 1 + 1 := rfl
      rw [List.map_cons, List.sum_cons, List.length_cons]
      omega
  have bl := bm l
  have bmm := bm m
  have ea : fedC (l ++ m) = fedC l ++ fedC m := by unfold fedC; rw [List.flatMap_append]
  have sza : Sa.sizes (fedC (l ++ m)) ≤ 50000000 := by rw [ea, sizes_app]; omega
  obtain ⟨k1, s1⟩ := shown_ev
  obtain ⟨k2, s2⟩ := runs_ev l (by omega) (by omega)
  obtain ⟨k3, s3⟩ := runs_ev (l ++ m) (by rw [List.length_append]; omega) sza
  have hin := inv_runs l (0, (⟨#[]⟩ : ByteArray), [], []) [] inv_0 (by have := len_sizes (fedC l); rw [List.nil_append]; omega)
  rw [List.nil_append] at hin
  have hlen := hin.len
  have hfl := congrArg List.length hin.i1
  rw [List.length_append] at hfl
  have hls := len_sizes (fedC l)
  obtain ⟨k4, s4⟩ := blocks_ev (resC l).2.2.2 (by show (l.foldl runC _).2.2.2.length ≤ _; omega) (fun x hx => by have := flat_mem _ x hx; have e : (flatC (resC l).2.2.2).length = (flatC (l.foldl runC (0, (⟨#[]⟩ : ByteArray), [], [])).2.2.2).length := rfl; omega)
  obtain ⟨more, em⟩ := fold_pre m (resC l)
  have er : (resC (l ++ m)).2.2.2 = (resC l).2.2.2 ++ more := by rw [← em]; unfold resC; rw [List.foldl_append]
  obtain ⟨k, hk1, hk2, hk3, hk4⟩ : ∃ k, k1 ≤ k ∧ k2 ≤ k ∧ k3 ≤ k ∧ k4 ≤ k := ⟨max k1 (max k2 (max k3 k4)), by omega, by omega, by omega, by omega⟩
  have t1 : selvedgelaw15_shown.f k = some true := s1 k hk1
  have t2 := s2 k hk2
  have t3 := s3 k hk3
  have t4 : selvedgeref15_Blocks.f k (resC l).2.2.2 (resC l).2.2.2 = some true := s4 k hk4
  refine ⟨k, ?_⟩
  unfold selvedgelaw15_CutPrefix.f
  rw [t1, Option.bind_some]
  by_cases c : wrap64 ((l.length : Int) + (m.length : Int)) > 40
  · rw [if_pos c]
  · rw [if_neg c, show selvedgelaw15_runs.f k l = _ from t2, Option.bind_some, Option.bind_some, if_pos (by rw [List.length_nil]; omega), Option.bind_some, List.nil_append, if_pos (by omega), show selvedgelaw15_runs.f k (l ++ m) = _ from t3, Option.bind_some]
    dsimp only
    rw [if_pos rfl, er, if_pos (by rw [List.length_append]; omega), if_pos (by omega), Int.toNat_natCast, List.take_left, t4, Option.bind_some]

end Go.Proofs.Ytiknkkkfkifahaa.Pure
