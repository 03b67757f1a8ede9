import Derived.Test.YtcbfnmabckjijaaArgOrderDeep
import Derived.Test.YtcbfnmabckjijaaEk
namespace Go.Proofs.Ytcbfnmabckjijaa.Pure
open Go.RowKit Go.Proofs.Ytcbfnmabckjijaa.POrderDeep Go.Proofs.YtcbfnmabckjijaaW.PrintWords Go.Proofs.YtcbfnmabckjijaaW.PrintLast
open Go.Proofs.Ytcbfnmabckjijaa.Ek
set_option linter.unusedVariables false
set_option linter.unusedSimpArgs false

set_option maxRecDepth 100000 in
theorem shown_true : selvedgelaw14_shown.f 400 = some true := by decide +kernel
theorem shown_ev : Evk (fun k => selvedgelaw14_shown.f k) true := Evk.of_mono (fun k r h => selvedgelaw14_shown.mono k r h) shown_true
theorem evk_succ {α : Type} {f : Nat → Option α} {v : α} (h : Evk (fun k => f (k + 1)) v) : Evk f v := by
  obtain ⟨k0, h0⟩ := h
  refine ⟨k0 + 1, fun k hk => ?_⟩
  obtain ⟨k', rfl⟩ : ∃ k', k = k' + 1 := ⟨k - 1, by omega⟩
  exact h0 k' (by omega)
theorem w64 (x : Int) (h : -4611686018427387904 ≤ x) (h' : x ≤ 4611686018427387904) : wrap64 x = x := Go.IntWalk.wrap64_in x (by omega)
theorem ws (i : Nat) (h : i ≤ 4611686018427387000) : wrap64 ((i : Int) + 1) = ((i + 1 : Nat) : Int) := by rw [w64 _ (by omega) (by omega)]; rfl
theorem rdOf_eq (l : List ByteArray) (i : Nat) (h : i < l.length) : rdOf ByteArray.empty l (i : Int) = l[i] := by
  unfold rdOf
  rw [Int.toNat_natCast, List.getD_eq_getElem?_getD, List.getElem?_eq_getElem h]; rfl
theorem ba_beq (a b : ByteArray) : (a == b) = decide (a.toList = b.toList) := by
  by_cases h : a.toList = b.toList
  · have e := Si.ba_ext h
    subst e
    rw [decide_eq_true h]
    exact beq_self_eq_true a
  · rw [decide_eq_false h]
    exact beq_eq_false_iff_ne.2 (fun e => h (by rw [e]))
/-! ### slices.Contains, order.with, Has -/
theorem index_l (l : List ByteArray) (hl : l.length ≤ 1099511627776) (s : ByteArray) : ∀ (n i : Nat), i + n = l.length → ∃ r : Int, Evk (fun k => slices_Index_string_string.l0 k l s (l.length : Int) (i : Int)) r ∧ decide (r ≥ 0) = (l.drop i).contains s
  | 0, i, h => ⟨-1, Evk.step (Evk.ret (-1)) (fun k => by rw [slices_Index_string_string.l0, if_neg (by omega)]), by rw [List.drop_eq_nil_of_le (by omega)]; rfl⟩
  | n + 1, i, h => by
    have hi : i < l.length := by omega
    have e := rdOf_eq l i hi
    rw [List.drop_eq_getElem_cons hi, List.contains_cons, ba_beq]
    by_cases hq : s.toList = (l[i]).toList
    · refine ⟨(i : Int), Evk.step (Evk.ret (i : Int)) (fun k => by rw [slices_Index_string_string.l0, if_pos (by omega), if_pos (by omega), if_pos (by omega), e, if_pos hq]), ?_⟩
      rw [decide_eq_true hq, Bool.true_or]
      exact decide_eq_true (by omega)
    · obtain ⟨r, h1, h2⟩ := index_l l hl s n (i + 1) (by omega)
      refine ⟨r, Evk.step h1 (fun k => by rw [slices_Index_string_string.l0, if_pos (by omega), if_pos (by omega), if_pos (by omega), e, if_neg hq, ws i (by omega)]), ?_⟩
      rw [decide_eq_false hq, Bool.false_or]
      exact h2
theorem contains_ev (l : List ByteArray) (hl : l.length ≤ 1099511627776) (s : ByteArray) : Evk (fun k => slices_Contains_string_string.f k l s) (l.contains s) := by
  obtain ⟨r, h1, h2⟩ := index_l l hl s l.length 0 (by omega)
  rw [List.drop_zero] at h2
  refine Evk.bind (f := fun k => slices_Index_string_string.f k l s) (g := fun _ t => some (decide (t ≥ 0))) h1 ?_
  rw [h2]
  exact Evk.ret _
theorem with_ev (l : List ByteArray) (hl : l.length ≤ 1099511627776) (s : ByteArray) : Evk (fun k => order_with.f k l s) (Si.withS l s) := by
  refine Evk.of_eq ?_ (fun k => by rw [order_with.f, if_pos (by omega)])
  refine Evk.bind (contains_ev l hl s) ?_
  exact Evk.of_eq (Evk.ret _) (fun k => if_pos rfl)
theorem has_l (l : List ByteArray) (hl : l.length ≤ 1099511627776) (s : ByteArray) : ∀ (n i : Nat), i + n = l.length → Evk (fun k => selvedgeref14_Has.l0 k l s (i : Int)) ((l.drop i).contains s)
  | 0, i, h => by
    rw [List.drop_eq_nil_of_le (by omega)]
    exact Evk.step (Evk.ret false) (fun k => by rw [selvedgeref14_Has.l0, if_neg (by omega)])
  | n + 1, i, h => by
    have hi : i < l.length := by omega
    have e := rdOf_eq l i hi
    rw [List.drop_eq_getElem_cons hi, List.contains_cons, ba_beq]
    by_cases hq : s.toList = (l[i]).toList
    · rw [decide_eq_true hq, Bool.true_or]
      exact Evk.step (Evk.ret true) (fun k => by rw [selvedgeref14_Has.l0, if_pos (by omega), if_pos (by omega), e, if_pos hq.symm])
    · rw [decide_eq_false hq, Bool.false_or]
      exact Evk.step (has_l l hl s n (i + 1) (by omega)) (fun k => by rw [selvedgeref14_Has.l0, if_pos (by omega), if_pos (by omega), e, if_neg (fun h => hq h.symm), ws i (by omega)])
theorem has_ev (l : List ByteArray) (hl : l.length ≤ 1099511627776) (s : ByteArray) : Evk (fun k => selvedgeref14_Has.f k l s) (l.contains s) := by
  have h := has_l l hl s l.length 0 (by omega)
  rw [List.drop_zero] at h
  exact h
/-! ### small -/
def Small (l : List SE) : Prop := l.length ≤ 60 ∧ (∀ x ∈ l, 0 ≤ x.f1.f1 ∧ x.f1.f1 ≤ 60) ∧ l.Pairwise (fun x y => x.f0.toList ≠ y.f0.toList)
theorem small_in (l : List SE) (hl : l.length ≤ 1048576) (a b : Int) (i : Nat) (hi : i < l.length) (c : Bool) (hn : Evk (fun k => selvedgelaw14_small.l0 k ((i + 1 : Nat) : Int) a b l) c) : ∀ (n j : Nat), j + n = i → ∃ r : Bool, Evk (fun k => selvedgelaw14_small.l1 k (i : Int) (j : Int) a b l) r ∧ (r = true → c = true ∧ ∀ (m : Nat) (hm : m < i), j ≤ m → (l[i]).f0.toList ≠ (l[m]'(by omega)).f0.toList)
  | 0, j, h => ⟨c, Evk.step hn (fun k => by rw [selvedgelaw14_small.l1, if_neg (by omega), ws i (by omega)]), fun hc => ⟨hc, fun m hm hj => by omega⟩⟩
  | n + 1, j, h => by
    have e := rdE_eq l i hi
    have hj : j < l.length := by omega
    have e' := rdE_eq l j hj
    by_cases hq : (l[i]).f0.toList = (l[j]).f0.toList
    · refine ⟨false, Evk.step (Evk.ret false) (fun k => ?_), fun hc => by cases hc⟩
      rw [selvedgelaw14_small.l1, if_pos (by omega), if_pos (by omega), if_pos (by omega), if_pos (by omega), if_pos (by omega), e, e', if_pos hq]
    · obtain ⟨r, h1, h2⟩ := small_in l hl a b i hi c hn n (j + 1) (by omega)
      refine ⟨r, Evk.step h1 (fun k => ?_), fun hc => ⟨(h2 hc).1, fun m hm hjm => ?_⟩⟩
      · rw [selvedgelaw14_small.l1, if_pos (by omega), if_pos (by omega), if_pos (by omega), if_pos (by omega), if_pos (by omega), e, e', if_neg hq, ws j (by omega)]
      · by_cases hmj : m = j
        · subst hmj; exact hq
        · exact (h2 hc).2 m hm (by omega)
theorem small_out (l : List SE) (hl : l.length ≤ 1048576) (a b : Int) : ∀ (n i : Nat), i + n = l.length → ∃ r : Bool, Evk (fun k => selvedgelaw14_small.l0 k (i : Int) a b l) r ∧ (r = true → l.length ≤ 60 ∧ ∀ (p : Nat) (hp : p < l.length), i ≤ p → (0 ≤ (l[p]).f1.f1 ∧ (l[p]).f1.f1 ≤ 60) ∧ ∀ (m : Nat) (hm : m < p), (l[p]).f0.toList ≠ (l[m]'(by omega)).f0.toList)
  | 0, i, h => ⟨decide ((l.length : Int) ≤ 60), Evk.step (Evk.ret _) (fun k => by rw [selvedgelaw14_small.l0, if_neg (by omega)]), fun hc => ⟨by have := of_decide_eq_true hc; omega, fun p hp hi => by omega⟩⟩
  | n + 1, i, h => by
    have hi : i < l.length := by omega
    have e := rdE_eq l i hi
    have jt : Evk (fun k => selvedgelaw14_small.j1 k (i : Int) true a b l) false := Evk.step (Evk.ret false) (fun k => by rw [selvedgelaw14_small.j1, if_pos rfl])
    by_cases h1 : (l[i]).f1.f1 > 60
    · exact ⟨false, Evk.step jt (fun k => by rw [selvedgelaw14_small.l0, if_pos (by omega), if_pos (by omega), e, if_pos h1]), fun hc => by cases hc⟩
    · by_cases h2 : (l[i]).f1.f1 < 0
      · exact ⟨false, Evk.step jt (fun k => by rw [selvedgelaw14_small.l0, if_pos (by omega), if_pos (by omega), e, if_neg h1, decide_eq_true h2]), fun hc => by cases hc⟩
      · obtain ⟨c, hc1, hc2⟩ := small_out l hl a b n (i + 1) (by omega)
        obtain ⟨r, hr1, hr2⟩ := small_in l hl a b i hi c hc1 i 0 (by omega)
        have jf : Evk (fun k => selvedgelaw14_small.j1 k (i : Int) false a b l) r := Evk.step hr1 (fun k => by rw [selvedgelaw14_small.j1, if_neg (by decide)]; rfl)
        refine ⟨r, Evk.step jf (fun k => by rw [selvedgelaw14_small.l0, if_pos (by omega), if_pos (by omega), e, if_neg h1, decide_eq_false h2]), fun hr => ?_⟩
        obtain ⟨hcc, hd⟩ := hr2 hr
        obtain ⟨g1, g2⟩ := hc2 hcc
        refine ⟨g1, fun p hp hip => ?_⟩
        by_cases hpi : p = i
        · subst hpi
          exact ⟨⟨by omega, by omega⟩, fun m hm => hd m hm (by omega)⟩
        · exact g2 p hp (by omega)
theorem small_ev (l : List SE) (hl : l.length ≤ 1048576) (a b : Int) : ∃ r : Bool, Evk (fun k => selvedgelaw14_small.f k a b l) r ∧ (r = true → Small l) := by
  obtain ⟨r, h1, h2⟩ := small_out l hl a b l.length 0 (by omega)
  refine ⟨r, h1, fun hr => ?_⟩
  obtain ⟨g1, g2⟩ := h2 hr
  refine ⟨g1, fun x hx => ?_, List.pairwise_iff_getElem.2 (fun i j hi hj hij => fun e => (g2 j hj (by omega)).2 i hij e.symm)⟩
  obtain ⟨p, hp, rfl⟩ := List.mem_iff_getElem.1 hx
  exact (g2 p hp (by omega)).1
/-! ### dag.Past -/
theorem strs_sum : ∀ l : List ByteArray, l.length ≤ (l.map (fun s : ByteArray => s.size + 1)).sum
  | [] => Nat.le_refl _
  | a :: r => by
    have := strs_sum r
    simp only [List.map_cons, List.sum_cons, List.length_cons]; omega
theorem ents_sum : ∀ l : List SE, l.length ≤ (l.map B37).sum ∧ ((l.map toDX).map (fun x => x.ps.length)).sum ≤ (l.map B37).sum
  | [] => ⟨Nat.le_refl _, Nat.le_refl _⟩
  | a :: r => by
    obtain ⟨h1, h2⟩ := ents_sum r
    have h3 := strs_sum a.f1.f3
    have e : B37 a = a.f0.size + 1 + B35 a.f1 + 1 := rfl
    have e' : B35 a.f1 = 1 + 1 + ((a.f1.f2.map B129).sum + 1) + ((a.f1.f3.map (fun s : ByteArray => s.size + 1)).sum + 1) + B33 a.f1.f4 + 1 := rfl
    have e3 : (toDX a).ps = a.f1.f3 := rfl
    simp only [List.map_cons, List.sum_cons, List.length_cons, e3]
    exact ⟨by omega, by omega⟩
theorem okX_of (l : List SE) (h1 : l.length ≤ 1048576) (h2 : (l.map B37).sum ≤ 1048576) (hg : ∀ x ∈ l, G37 x) : Si.okX (l.map toDX) = true := by
  refine (Si.okX_iff _).2 ⟨by rw [List.length_map]; omega, fun x hx => ?_, by have := (ents_sum l).2; omega⟩
  obtain ⟨y, hy, rfl⟩ := List.mem_map.1 hx
  obtain ⟨g0, g1⟩ := hg y hy
  exact ⟨g0, g1.2.2.2.1.2, g1.2.1⟩
theorem down_ok (l : List SE) (hb : ∀ x ∈ l, 0 ≤ x.f1.f1 ∧ x.f1.f1 ≤ 60) : ∀ (m : Nat) (r : Int), -1 ≤ r → r + 2 ≤ m → m ≤ 100 → ∃ q, Si.downO (Si.roundX (l.map toDX)) m r = some q
  | 0, r, h, h', _ => by omega
  | m + 1, r, h, h', h3 => by
    by_cases hz : (Si.roundX (l.map toDX) r).length = 0
    · exact ⟨[], by rw [Si.downO, if_pos hz]⟩
    · have hr : 0 ≤ r := by
        rw [filter_map_dx, List.length_map] at hz
        obtain ⟨x, hx⟩ := List.exists_mem_of_length_pos (Nat.pos_of_ne_zero hz)
        have hm := List.mem_filter.1 hx
        have := (hb x hm.1).1
        have e : x.f1.f1 = r := by simpa using hm.2
        omega
      obtain ⟨q, hq⟩ := down_ok l hb m (r - 1) (by omega) (by omega) (by omega)
      exact ⟨r :: q, by rw [Si.downO, if_neg hz, w64 (r - 1) (by omega) (by omega), hq]; rfl⟩
/-- the rounds that are gone through, from the top's down -/
def downsX (l : List SE) (r : Int) : List Int := (Si.downO (Si.roundX (l.map toDX)) 70 r).getD []
def innL (l : List SE) (t : SE) : List (ByteArray × Int) := (Si.pastS t.f0 t.f1.f1 (Si.roundX (l.map toDX)) (downsX l t.f1.f1)).1
def pastL (l : List SE) (dg : ByteArray) (lo : Int) : List SE := match l.find? (fun x => x.f0.toList == dg.toList) with
  | none => []
  | some t => l.filter (fun x => Si.selX (innL l t) lo (toDX x))
theorem past_f (l : List SE) (h1 : l.length ≤ 1048576) (h2 : (l.map B37).sum ≤ 1048576) (hg : ∀ x ∈ l, G37 x) (hb : ∀ x ∈ l, 0 ≤ x.f1.f1 ∧ x.f1.f1 ≤ 60) (a b : Int) (dg : ByteArray) (lo : Int) : dag_Past.f a b l dg lo = some (pastL l dg lo) := by
  unfold dag_Past.f
  rw [if_pos (okX_of l h1 h2 hg)]
  unfold Si.innX pastL
  rw [find_map_dx]
  cases hf : l.find? (fun x => x.f0.toList == dg.toList) with
  | none => rfl
  | some t =>
    have ht := hb t (List.mem_of_find?_eq_some hf)
    obtain ⟨q, hq⟩ := down_ok l hb 70 t.f1.f1 (by omega) (by omega) (by omega)
    have e : downsX l t.f1.f1 = q := by unfold downsX; rw [hq]; rfl
    dsimp only [Option.map]
    rw [show (toDX t).ro = t.f1.f1 from rfl, hq]
    unfold innL
    rw [e]
    rfl
theorem pastL_sub (l : List SE) (dg : ByteArray) (lo : Int) : (pastL l dg lo).Sublist l := by
  unfold pastL
  split
  · exact List.nil_sublist l
  · exact List.filter_sublist
theorem pastL_lo (l : List SE) (dg : ByteArray) (lo : Int) : ∀ x ∈ pastL l dg lo, x.f1.f1 > lo := by
  intro x hx
  unfold pastL at hx
  split at hx
  · simp at hx
  · have h := (List.mem_filter.1 hx).2
    unfold Si.selX at h
    split at h
    · rw [Bool.and_eq_true] at h
      have e := eq_of_beq h.1
      have e' := of_decide_eq_true h.2
      rw [e] at e'
      exact e'
    · cases h
/-! ### order.Behind -/
def newL (done : List ByteArray) (p : List SE) : List SE := p.filter (fun x => !done.contains x.f0)
theorem withS_le (l : List ByteArray) (s : ByteArray) : (Si.withS l s).length ≤ l.length + 1 := by
  cases h : l.contains s with
  | true => unfold Si.withS; rw [h, if_pos rfl]; omega
  | false => rw [Si.withS_len l s h]; omega
theorem behind_l (done : List ByteArray) (hd : done.length ≤ 1048576) (p : List SE) (hp : p.length ≤ 1048576) : ∀ (n i : Nat) (acc : List SE) (dn : List ByteArray), i + n = p.length → acc.length ≤ i → dn.length ≤ 1048576 + i → Evk (fun k => order_Behind.l0 k dn acc done p (p.length : Int) (i : Int)) (acc ++ newL done (p.drop i), ((newL done (p.drop i)).map (fun x => x.f0)).foldl Si.withS dn)
  | 0, i, acc, dn, h, ha, hn => by
    rw [List.drop_eq_nil_of_le (by omega)]
    exact Evk.step (Evk.ret _) (fun k => by rw [order_Behind.l0, if_neg (by omega), show newL done [] = [] from rfl, List.append_nil]; rfl)
  | n + 1, i, acc, dn, h, ha, hn => by
    have hi : i < p.length := by omega
    have e := rdE_eq p i hi
    have ew := ws i (by omega)
    refine Evk.step (g := fun k => (slices_Contains_string_string.f k done (p[i]).f0).bind fun t143 => (if t143 = true then (order_Behind.l0 k dn acc done p (p.length : Int) ((i + 1 : Nat) : Int)) else ((order_with.f k dn (p[i]).f0).bind fun t147 => (order_Behind.l0 k t147 (acc ++ [p[i]]) done p (p.length : Int) ((i + 1 : Nat) : Int))))) ?_ (fun k => ?_)
    · refine Evk.bind (contains_ev done (by omega) _) ?_
      rw [List.drop_eq_getElem_cons hi]
      unfold newL
      rw [List.filter_cons]
      cases hc : done.contains (p[i]).f0 with
      | true =>
        rw [if_neg (by decide)]
        exact Evk.of_eq (behind_l done hd p hp n (i + 1) acc dn (by omega) (by omega) (by omega)) (fun k => if_pos rfl)
      | false =>
        rw [if_pos (by decide)]
        refine Evk.of_eq ?_ (fun k => if_neg (by decide))
        refine Evk.bind (with_ev dn (by omega) _) ?_
        have hw := withS_le dn (p[i]).f0
        have ih := behind_l done hd p hp n (i + 1) (acc ++ [p[i]]) (Si.withS dn (p[i]).f0) (by omega) (by rw [List.length_append]; simp; omega) (by omega)
        rw [List.append_assoc] at ih
        exact ih
    · show order_Behind.l0 (k + 1) dn acc done p (p.length : Int) (i : Int) = _
      rw [order_Behind.l0, if_pos (by omega), if_pos (by omega), if_pos (by omega), e, ew, if_pos (show acc.length < 1466015503701 by omega)]
theorem behind_ev (l : List SE) (h1 : l.length ≤ 1048576) (h2 : (l.map B37).sum ≤ 1048576) (hg : ∀ x ∈ l, G37 x) (hb : ∀ x ∈ l, 0 ≤ x.f1.f1 ∧ x.f1.f1 ≤ 60) (a b : Int) (x0 : ByteArray) (x1 x2 : Int) (x3 : List S129) (x4 : List ByteArray) (x5 x6 : Int) (done : List ByteArray) (hd : done.length ≤ 1048576) :
    Evk (fun k => order_Behind.f k a b l x0 x1 x2 x3 x4 x5 x6 done) (newL done (pastL l x0 (wrap64 (x2 - 12))), ((newL done (pastL l x0 (wrap64 (x2 - 12)))).map (fun x => x.f0)).foldl Si.withS done) := by
  unfold order_Behind.f
  rw [past_f l h1 h2 hg hb]
  have hp := (pastL_sub l x0 (wrap64 (x2 - 12))).length_le
  have h := behind_l done hd (pastL l x0 (wrap64 (x2 - 12))) (by omega) (pastL l x0 (wrap64 (x2 - 12))).length 0 [] done (by omega) (by simp) (by omega)
  rw [List.drop_zero, List.nil_append] at h
  exact h

theorem deep_l (done : List ByteArray) (hd : done.length ≤ 1048576) (l : List SE) (hl : l.length ≤ 1048576) (x0 : ByteArray) (x1 x2 : Int) (x3 : List S129) (x4 : List ByteArray) (x5 x6 : Int) (hx : ∀ x ∈ l, x.f1.f1 > wrap64 (x2 - 12) ∧ done.contains x.f0 = false) : ∀ (n i : Nat), i + n = l.length → Evk (fun k => selvedgelaw14_OrderDeep.l0 k done l (i : Int) x0 x1 x2 x3 x4 x5 x6) true
  | 0, i, h => Evk.step (Evk.ret true) (fun k => by rw [selvedgelaw14_OrderDeep.l0, if_neg (by omega)])
  | n + 1, i, h => by
    have hi : i < l.length := by omega
    have e := rdE_eq l i hi
    have hm := hx _ (List.getElem_mem hi)
    have hh := has_ev done (by omega) (l[i]).f0
    rw [hm.2] at hh
    have ew := ws i (by omega)
    refine Evk.step (g := fun k => (selvedgeref14_Has.f k done (l[i]).f0).bind fun t162 => (if (l[i]).f1.f1 ≤ wrap64 (x2 - 12) then some false else (if t162 = true then some false else selvedgelaw14_OrderDeep.l0 k done l ((i + 1 : Nat) : Int) x0 x1 x2 x3 x4 x5 x6))) ?_ (fun k => ?_)
    · refine Evk.bind hh ?_
      exact Evk.of_eq (deep_l done hd l hl x0 x1 x2 x3 x4 x5 x6 hx n (i + 1) (by omega)) (fun k => by rw [if_neg (by omega), if_neg (by decide)])
    · show selvedgelaw14_OrderDeep.l0 (k + 1) done l (i : Int) x0 x1 x2 x3 x4 x5 x6 = _
      rw [selvedgelaw14_OrderDeep.l0, if_pos (by omega), if_pos (by omega), e, ew]
theorem OrderDeep : selvedgelaw14_OrderDeep.Pure := by
  intro x0 x1 l2 hg0 hg1 hg2 hsum
  have e0 : B24 x0 = 1 + 1 + ((x0.f2.map B37).sum + 1) + 1 := rfl
  have hs2 := strs_sum l2
  dsimp only at hsum
  have h2 : (x0.f2.map B37).sum ≤ 1048576 := by omega
  have h1 : x0.f2.length ≤ 1048576 := Nat.le_trans (ents_sum x0.f2).1 h2
  have hd : l2.length ≤ 1048576 := by omega
  have hg : ∀ x ∈ x0.f2, G37 x := hg0.2.2.2
  obtain ⟨b, hb, hsm⟩ := small_ev x0.f2 h1 x0.f0 x0.f1
  refine Evk.get (f := fun k => selvedgelaw14_OrderDeep.f k x0.f0 x0.f1 x0.f2 x1.f0 x1.f1.f0 x1.f1.f1 x1.f1.f2 x1.f1.f3 x1.f1.f4.f0 x1.f1.f4.f1 l2) ?_
  refine Evk.bind shown_ev ?_
  refine Evk.bind hb ?_
  refine Evk.of_eq ?_ (fun k => if_pos rfl)
  have ht : Evk (fun k => selvedgelaw14_OrderDeep.j0 k l2 true true x0.f0 x0.f1 x0.f2 x1.f0 x1.f1.f0 x1.f1.f1 x1.f1.f2 x1.f1.f3 x1.f1.f4.f0 x1.f1.f4.f1) true := Evk.step (Evk.ret true) (fun k => by rw [selvedgelaw14_OrderDeep.j0, if_pos rfl])
  cases b with
  | false => exact Evk.of_eq ht (fun k => if_neg (by decide))
  | true =>
    obtain ⟨s1, s2, s3⟩ := hsm rfl
    refine Evk.of_eq ?_ (fun k => if_pos rfl)
    by_cases h0 : x1.f1.f1 < 0
    · exact Evk.of_eq ht (fun k => if_pos h0)
    · refine Evk.of_eq ?_ (fun k => if_neg h0)
      by_cases h9 : x1.f1.f1 > 1000000
      · rw [decide_eq_true h9]; exact ht
      · rw [decide_eq_false h9]
        refine Evk.step (g := fun k => (order_Behind.f k x0.f0 x0.f1 x0.f2 x1.f0 x1.f1.f0 x1.f1.f1 x1.f1.f2 x1.f1.f3 x1.f1.f4.f0 x1.f1.f4.f1 l2).bind fun bt155 => (selvedgelaw14_OrderDeep.l0 k l2 bt155.1 0 x1.f0 x1.f1.f0 x1.f1.f1 x1.f1.f2 x1.f1.f3 x1.f1.f4.f0 x1.f1.f4.f1)) ?_ (fun k => by rw [selvedgelaw14_OrderDeep.j0, if_neg (by decide)])
        refine Evk.bind (behind_ev x0.f2 h1 h2 hg s2 x0.f0 x0.f1 x1.f0 x1.f1.f0 x1.f1.f1 x1.f1.f2 x1.f1.f3 x1.f1.f4.f0 x1.f1.f4.f1 l2 hd) ?_
        have hp := (pastL_sub x0.f2 x1.f0 (wrap64 (x1.f1.f1 - 12))).length_le
        have hlen : (newL l2 (pastL x0.f2 x1.f0 (wrap64 (x1.f1.f1 - 12)))).length ≤ 1048576 := by
          have := List.length_filter_le (fun x : SE => !l2.contains x.f0) (pastL x0.f2 x1.f0 (wrap64 (x1.f1.f1 - 12)))
          unfold newL; omega
        refine deep_l l2 hd _ hlen x1.f0 x1.f1.f0 x1.f1.f1 x1.f1.f2 x1.f1.f3 x1.f1.f4.f0 x1.f1.f4.f1 (fun x hx => ?_) _ 0 (Nat.zero_add _)
        have hm := List.mem_filter.1 hx
        exact ⟨pastL_lo _ _ _ x hm.1, by simpa using hm.2⟩
end Go.Proofs.Ytcbfnmabckjijaa.Pure
