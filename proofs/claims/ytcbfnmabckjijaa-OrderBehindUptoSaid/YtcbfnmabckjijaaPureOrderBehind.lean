import Derived.Test.YtcbfnmabckjijaaArgOrderBehind
import Derived.Test.YtcbfnmabckjijaaVOrderBehindEk
namespace Go.Proofs.Ytcbfnmabckjijaa.Pure
open Go.RowKit Go.Proofs.Ytcbfnmabckjijaa.POrderBehind Go.Proofs.YtcbfnmabckjijaaW.PrintWords Go.Proofs.YtcbfnmabckjijaaW.PrintLast
open Go.Proofs.Ytcbfnmabckjijaa.Ek
set_option linter.unusedVariables false
set_option linter.unusedSimpArgs false

set_option maxRecDepth 100000 in
theorem shown_true : selvedgelaw14_shown.f 400 = some true := by decide +kernel
theorem shown_ev : Evk (fun k => selvedgelaw14_shown.f k) true := Evk.of_mono (fun k r h => selvedgelaw14_shown.mono k r h) shown_true
theorem evk_succ {α : Type} {f : Nat → Option α} {v : α} (h : Evk (fun k => f (k + 1)) v) : Evk f v := by
 obtain ⟨k0, h0⟩ := h
 refine ⟨k0 + 1, fun k hk => ?_⟩
 obtain ⟨k', rfl⟩ : ∃ k', k = k' + 1 := ⟨k - 1, by omega⟩
 exact h0 k' (by omega)
theorem w64 (x : Int) (h : -4611686018427387904 ≤ x) (h' : x ≤ 4611686018427387904) : wrap64 x = x := Go.IntWalk.wrap64_in x (by omega)
theorem ws (i : Nat) (h : i ≤ 4611686018427387000) : wrap64 ((i : Int) + 1) = ((i + 1 : Nat) : Int) := by rw [w64 _ (by omega) (by omega)]; rfl
theorem rdOf_eq (l : List ByteArray) (i : Nat) (h : i < l.length) : rdOf ByteArray.empty l (i : Int) = l[i] := by
 unfold rdOf
 rw [Int.toNat_natCast, List.getD_eq_getElem?_getD, List.getElem?_eq_getElem h]; rfl
theorem ba_beq (a b : ByteArray) : (a == b) = decide (a.toList = b.toList) := by
 by_cases h : a.toList = b.toList
 ·
  have e := Si.ba_ext h
  subst e
  rw [decide_eq_true h]
  exact beq_self_eq_true a
 ·
  rw [decide_eq_false h]
  exact beq_eq_false_iff_ne.2 (fun e => h (by rw [e]))
theorem index_l (l : List ByteArray) (hl : l.length ≤ 1099511627776) (s : ByteArray) : ∀ (n i : Nat), i + n = l.length → ∃ r : Int, Evk (fun k => slices_Index_string_string.l0 k l s (l.length : Int) (i : Int)) r ∧ decide (r ≥ 0) = (l.drop i).contains s
 | 0, i, h => ⟨-1, Evk.step (Evk.ret (-1)) (fun k => by rw [slices_Index_string_string.l0, if_neg (by omega)]), by rw [List.drop_eq_nil_of_le (by omega)]; rfl⟩
 | n + 1, i, h => by
  have hi : i < l.length := by omega
  have e := rdOf_eq l i hi
  rw [List.drop_eq_getElem_cons hi, List.contains_cons, ba_beq]
  by_cases hq : s.toList = (l[i]).toList
  ·
   refine ⟨(i : Int), Evk.step (Evk.ret (i : Int)) (fun k => by rw [slices_Index_string_string.l0, if_pos (by omega), if_pos (by omega), if_pos (by omega), e, if_pos hq]), ?_⟩
   rw [decide_eq_true hq, Bool.true_or]
   exact decide_eq_true (by omega)
  ·
   obtain ⟨r, h1, h2⟩ := index_l l hl s n (i + 1) (by omega)
   refine ⟨r, Evk.step h1 (fun k => by rw [slices_Index_string_string.l0, if_pos (by omega), if_pos (by omega), if_pos (by omega), e, if_neg hq, ws i (by omega)]), ?_⟩
   rw [decide_eq_false hq, Bool.false_or]
   exact h2
theorem contains_ev (l : List ByteArray) (hl : l.length ≤ 1099511627776) (s : ByteArray) : Evk (fun k => slices_Contains_string_string.f k l s) (l.contains s) := by
 obtain ⟨r, h1, h2⟩ := index_l l hl s l.length 0 (by omega)
 rw [List.drop_zero] at h2
 refine Evk.bind (f := fun k => slices_Index_string_string.f k l s) (g := fun _ t => some (decide (t ≥ 0))) h1 ?_
 rw [h2]
 exact Evk.ret _
theorem with_ev (l : List ByteArray) (hl : l.length ≤ 1099511627776) (s : ByteArray) : Evk (fun k => order_with.f k l s) (Si.withS l s) := by
 refine Evk.of_eq ?_ (fun k => by rw [order_with.f, if_pos (by omega)])
 refine Evk.bind (contains_ev l hl s) ?_
 exact Evk.of_eq (Evk.ret _) (fun k => if_pos rfl)
theorem has_l (l : List ByteArray) (hl : l.length ≤ 1099511627776) (s : ByteArray) : ∀ (n i : Nat), i + n = l.length → Evk (fun k => selvedgeref14_Has.l0 k l s (i : Int)) ((l.drop i).contains s)
 | 0, i, h => by
  rw [List.drop_eq_nil_of_le (by omega)]
  exact Evk.step (Evk.ret false) (fun k => by rw [selvedgeref14_Has.l0, if_neg (by omega)])
 | n + 1, i, h => by
  have hi : i < l.length := by omega
  have e := rdOf_eq l i hi
  rw [List.drop_eq_getElem_cons hi, List.contains_cons, ba_beq]
  by_cases hq : s.toList = (l[i]).toList
  ·
   rw [decide_eq_true hq, Bool.true_or]
   exact Evk.step (Evk.ret true) (fun k => by rw [selvedgeref14_Has.l0, if_pos (by omega), if_pos (by omega), e, if_pos hq.symm])
  ·
   rw [decide_eq_false hq, Bool.false_or]
   exact Evk.step (has_l l hl s n (i + 1) (by omega)) (fun k => by rw [selvedgeref14_Has.l0, if_pos (by omega), if_pos (by omega), e, if_neg (fun h => hq h.symm), ws i (by omega)])
theorem has_ev (l : List ByteArray) (hl : l.length ≤ 1099511627776) (s : ByteArray) : Evk (fun k => selvedgeref14_Has.f k l s) (l.contains s) := by
 have h := has_l l hl s l.length 0 (by omega)
 rw [List.drop_zero] at h
 exact h
def Small (l : List SE) : Prop := l.length ≤ 60 ∧ (∀ x ∈ l, 0 ≤ x.f1.f1 ∧ x.f1.f1 ≤ 60) ∧ l.Pairwise (fun x y => x.f0.toList ≠ y.f0.toList)
theorem small_in (l : List SE) (hl : l.length ≤ 1048576) (a b : Int) (i : Nat) (hi : i < l.length) (c : Bool) (hn : Evk (fun k => selvedgelaw14_small.l0 k ((i + 1 : Nat) : Int) a b l) c) : ∀ (n j : Nat), j + n = i → ∃ r : Bool, Evk (fun k => selvedgelaw14_small.l1 k (i : Int) (j : Int) a b l) r ∧ (r = true → c = true ∧ ∀ (m : Nat) (hm : m < i), j ≤ m → (l[i]).f0.toList ≠ (l[m]'(by omega)).f0.toList)
 | 0, j, h => ⟨c, Evk.step hn (fun k => by rw [selvedgelaw14_small.l1, if_neg (by omega), ws i (by omega)]), fun hc => ⟨hc, fun m hm hj => by omega⟩⟩
 | n + 1, j, h => by
  have e := rdE_eq l i hi
  have hj : j < l.length := by omega
  have e' := rdE_eq l j hj
  by_cases hq : (l[i]).f0.toList = (l[j]).f0.toList
  ·
   refine ⟨false, Evk.step (Evk.ret false) (fun k => ?_), fun hc => by cases hc⟩
   rw [selvedgelaw14_small.l1, if_pos (by omega), if_pos (by omega), if_pos (by omega), if_pos (by omega), if_pos (by omega), e, e', if_pos hq]
  ·
   obtain ⟨r, h1, h2⟩ := small_in l hl a b i hi c hn n (j + 1) (by omega)
   refine ⟨r, Evk.step h1 (fun k => ?_), fun hc => ⟨(h2 hc).1, fun m hm hjm => ?_⟩⟩
   ·
    rw [selvedgelaw14_small.l1, if_pos (by omega), if_pos (by omega), if_pos (by omega), if_pos (by omega), if_pos (by omega), e, e', if_neg hq, ws j (by omega)]
   ·
    by_cases hmj : m = j
    ·
     subst hmj; exact hq
    ·
     exact (h2 hc).2 m hm (by omega)
theorem small_out (l : List SE) (hl : l.length ≤ 1048576) (a b : Int) : ∀ (n i : Nat), i + n = l.length → ∃ r : Bool, Evk (fun k => selvedgelaw14_small.l0 k (i : Int) a b l) r ∧ (r = true → l.length ≤ 60 ∧ ∀ (p : Nat) (hp : p < l.length), i ≤ p → (0 ≤ (l[p]).f1.f1 ∧ (l[p]).f1.f1 ≤ 60) ∧ ∀ (m : Nat) (hm : m < p), (l[p]).f0.toList ≠ (l[m]'(by omega)).f0.toList)
 | 0, i, h => ⟨decide ((l.length : Int) ≤ 60), Evk.step (Evk.ret _) (fun k => by rw [selvedgelaw14_small.l0, if_neg (by omega)]), fun hc => ⟨by have := of_decide_eq_true hc; omega, fun p hp hi => by omega⟩⟩
 | n + 1, i, h => by
  have hi : i < l.length := by omega
  have e := rdE_eq l i hi
  have jt : Evk (fun k => selvedgelaw14_small.j1 k (i : Int) true a b l) false := Evk.step (Evk.ret false) (fun k => by rw [selvedgelaw14_small.j1, if_pos rfl])
  by_cases h1 : (l[i]).f1.f1 > 60
  ·
   exact ⟨false, Evk.step jt (fun k => by rw [selvedgelaw14_small.l0, if_pos (by omega), if_pos (by omega), e, if_pos h1]), fun hc => by cases hc⟩
  ·
   by_cases h2 : (l[i]).f1.f1 < 0
   ·
    exact ⟨false, Evk.step jt (fun k => by rw [selvedgelaw14_small.l0, if_pos (by omega), if_pos (by omega), e, if_neg h1, decide_eq_true h2]), fun hc => by cases hc⟩
   ·
    obtain ⟨c, hc1, hc2⟩ := small_out l hl a b n (i + 1) (by omega)
    obtain ⟨r, hr1, hr2⟩ := small_in l hl a b i hi c hc1 i 0 (by omega)
    have jf : Evk (fun k => selvedgelaw14_small.j1 k (i : Int) false a b l) r := Evk.step hr1 (fun k => by rw [selvedgelaw14_small.j1, if_neg (by decide)]; rfl)
    refine ⟨r, Evk.step jf (fun k => by rw [selvedgelaw14_small.l0, if_pos (by omega), if_pos (by omega), e, if_neg h1, decide_eq_false h2]), fun hr => ?_⟩
    obtain ⟨hcc, hd⟩ := hr2 hr
    obtain ⟨g1, g2⟩ := hc2 hcc
    refine ⟨g1, fun p hp hip => ?_⟩
    by_cases hpi : p = i
    ·
     subst hpi
     exact ⟨⟨by omega, by omega⟩, fun m hm => hd m hm (by omega)⟩
    ·
     exact g2 p hp (by omega)
theorem small_ev (l : List SE) (hl : l.length ≤ 1048576) (a b : Int) : ∃ r : Bool, Evk (fun k => selvedgelaw14_small.f k a b l) r ∧ (r = true → Small l) := by
 obtain ⟨r, h1, h2⟩ := small_out l hl a b l.length 0 (by omega)
 refine ⟨r, h1, fun hr => ?_⟩
 obtain ⟨g1, g2⟩ := h2 hr
 refine ⟨g1, fun x hx => ?_, List.pairwise_iff_getElem.2 (fun i j hi hj hij => fun e => (g2 j hj (by omega)).2 i hij e.symm)⟩
 obtain ⟨p, hp, rfl⟩ := List.mem_iff_getElem.1 hx
 exact (g2 p hp (by omega)).1
theorem strs_sum : ∀ l : List ByteArray, l.length ≤ (l.map (fun s : ByteArray => s.size + 1)).sum
 | [] => Nat.le_refl _
 | a :: r => by
  have := strs_sum r
  simp only [List.map_cons, List.sum_cons, List.length_cons]; omega
theorem ents_sum : ∀ l : List SE, l.length ≤ (l.map B37).sum ∧ ((l.map toDX).map (fun x => x.ps.length)).sum ≤ (l.map B37).sum
 | [] => ⟨Nat.le_refl _, Nat.le_refl _⟩
 | a :: r => by
  obtain ⟨h1, h2⟩ := ents_sum r
  have h3 := strs_sum a.f1.f3
  have e : B37 a = a.f0.size + 1 + B35 a.f1 + 1 := rfl
  have e' : B35 a.f1 = 1 + 1 + ((a.f1.f2.map B129).sum + 1) + ((a.f1.f3.map (fun s : ByteArray => s.size + 1)).sum + 1) + B33 a.f1.f4 + 1 := rfl
  have e3 : (toDX a).ps = a.f1.f3 := rfl
  simp only [List.map_cons, List.sum_cons, List.length_cons, e3]
  exact ⟨by omega, by omega⟩
theorem okX_of (l : List SE) (h1 : l.length ≤ 1048576) (h2 : (l.map B37).sum ≤ 1048576) (hg : ∀ x ∈ l, G37 x) : Si.okX (l.map toDX) = true := by
 refine (Si.okX_iff _).2 ⟨by rw [List.length_map]; omega, fun x hx => ?_, by have := (ents_sum l).2; omega⟩
 obtain ⟨y, hy, rfl⟩ := List.mem_map.1 hx
 obtain ⟨g0, g1⟩ := hg y hy
 exact ⟨g0, g1.2.2.2.1.2, g1.2.1⟩
theorem down_ok (l : List SE) (hb : ∀ x ∈ l, 0 ≤ x.f1.f1 ∧ x.f1.f1 ≤ 60) : ∀ (m : Nat) (r : Int), -1 ≤ r → r + 2 ≤ m → m ≤ 100 → ∃ q, Si.downO (Si.roundX (l.map toDX)) m r = some q
 | 0, r, h, h', _ => by omega
 | m + 1, r, h, h', h3 => by
  by_cases hz : (Si.roundX (l.map toDX) r).length = 0
  ·
   exact ⟨[], by rw [Si.downO, if_pos hz]⟩
  ·
   have hr : 0 ≤ r := by
    rw [filter_map_dx, List.length_map] at hz
    obtain ⟨x, hx⟩ := List.exists_mem_of_length_pos (Nat.pos_of_ne_zero hz)
    have hm := List.mem_filter.1 hx
    have := (hb x hm.1).1
    have e : x.f1.f1 = r := by simpa using hm.2
    omega
   obtain ⟨q, hq⟩ := down_ok l hb m (r - 1) (by omega) (by omega) (by omega)
   exact ⟨r :: q, by rw [Si.downO, if_neg hz, w64 (r - 1) (by omega) (by omega), hq]; rfl⟩
def downsX (l : List SE) (r : Int) : List Int := (Si.downO (Si.roundX (l.map toDX)) 70 r).getD []
def innL (l : List SE) (t : SE) : List (ByteArray × Int) := (Si.pastS t.f0 t.f1.f1 (Si.roundX (l.map toDX)) (downsX l t.f1.f1)).1
def pastL (l : List SE) (dg : ByteArray) (lo : Int) : List SE := match l.find? (fun x => x.f0.toList == dg.toList) with
 | none => []
 | some t => l.filter (fun x => Si.selX (innL l t) lo (toDX x))
theorem past_f (l : List SE) (h1 : l.length ≤ 1048576) (h2 : (l.map B37).sum ≤ 1048576) (hg : ∀ x ∈ l, G37 x) (hb : ∀ x ∈ l, 0 ≤ x.f1.f1 ∧ x.f1.f1 ≤ 60) (a b : Int) (dg : ByteArray) (lo : Int) : dag_Past.f a b l dg lo = some (pastL l dg lo) := by
 unfold dag_Past.f
 rw [if_pos (okX_of l h1 h2 hg)]
 unfold Si.innX pastL
 rw [find_map_dx]
 cases hf : l.find? (fun x => x.f0.toList == dg.toList) with
 | none => rfl
 | some t =>
  have ht := hb t (List.mem_of_find?_eq_some hf)
  obtain ⟨q, hq⟩ := down_ok l hb 70 t.f1.f1 (by omega) (by omega) (by omega)
  have e : downsX l t.f1.f1 = q := by unfold downsX; rw [hq]; rfl
  dsimp only [Option.map]
  rw [show (toDX t).ro = t.f1.f1 from rfl, hq]
  unfold innL
  rw [e]
  rfl
theorem pastL_sub (l : List SE) (dg : ByteArray) (lo : Int) : (pastL l dg lo).Sublist l := by
 unfold pastL
 split
 ·
  exact List.nil_sublist l
 ·
  exact List.filter_sublist
def newL (done : List ByteArray) (p : List SE) : List SE := p.filter (fun x => !done.contains x.f0)
theorem withS_le (l : List ByteArray) (s : ByteArray) : (Si.withS l s).length ≤ l.length + 1 := by
 cases h : l.contains s with
 | true => unfold Si.withS; rw [h, if_pos rfl]; omega
 | false => rw [Si.withS_len l s h]; omega
theorem behind_l (done : List ByteArray) (hd : done.length ≤ 1048576) (p : List SE) (hp : p.length ≤ 1048576) : ∀ (n i : Nat) (acc : List SE) (dn : List ByteArray), i + n = p.length → acc.length ≤ i → dn.length ≤ 1048576 + i → Evk (fun k => order_Behind.l0 k dn acc done p (p.length : Int) (i : Int)) (acc ++ newL done (p.drop i), ((newL done (p.drop i)).map (fun x => x.f0)).foldl Si.withS dn)
 | 0, i, acc, dn, h, ha, hn => by
  rw [List.drop_eq_nil_of_le (by omega)]
  exact Evk.step (Evk.ret _) (fun k => by rw [order_Behind.l0, if_neg (by omega), show newL done [] = [] from rfl, List.append_nil]; rfl)
 | n + 1, i, acc, dn, h, ha, hn => by
  have hi : i < p.length := by omega
  have e := rdE_eq p i hi
  have ew := ws i (by omega)
  refine Evk.step (g := fun k => (slices_Contains_string_string.f k done (p[i]).f0).bind fun t143 => (if t143 = true then (order_Behind.l0 k dn acc done p (p.length : Int) ((i + 1 : Nat) : Int)) else ((order_with.f k dn (p[i]).f0).bind fun t147 => (order_Behind.l0 k t147 (acc ++ [p[i]]) done p (p.length : Int) ((i + 1 : Nat) : Int))))) ?_ (fun k => ?_)
  ·
   refine Evk.bind (contains_ev done (by omega) _) ?_
   rw [List.drop_eq_getElem_cons hi]
   unfold newL
   rw [List.filter_cons]
   cases hc : done.contains (p[i]).f0 with
   | true =>
    rw [if_neg (by decide)]
    exact Evk.of_eq (behind_l done hd p hp n (i + 1) acc dn (by omega) (by omega) (by omega)) (fun k => if_pos rfl)
   | false =>
    rw [if_pos (by decide)]
    refine Evk.of_eq ?_ (fun k => if_neg (by decide))
    refine Evk.bind (with_ev dn (by omega) _) ?_
    have hw := withS_le dn (p[i]).f0
    have ih := behind_l done hd p hp n (i + 1) (acc ++ [p[i]]) (Si.withS dn (p[i]).f0) (by omega) (by rw [List.length_append]; simp; omega) (by omega)
    rw [List.append_assoc] at ih
    exact ih
  ·
   show order_Behind.l0 (k + 1) dn acc done p (p.length : Int) (i : Int) = _
   rw [order_Behind.l0, if_pos (by omega), if_pos (by omega), if_pos (by omega), e, ew, if_pos (show acc.length < 1466015503701 by omega)]
theorem behind_ev (l : List SE) (h1 : l.length ≤ 1048576) (h2 : (l.map B37).sum ≤ 1048576) (hg : ∀ x ∈ l, G37 x) (hb : ∀ x ∈ l, 0 ≤ x.f1.f1 ∧ x.f1.f1 ≤ 60) (a b : Int) (x0 : ByteArray) (x1 x2 : Int) (x3 : List S129) (x4 : List ByteArray) (x5 x6 : Int) (done : List ByteArray) (hd : done.length ≤ 1048576) :
  Evk (fun k => order_Behind.f k a b l x0 x1 x2 x3 x4 x5 x6 done) (newL done (pastL l x0 (wrap64 (x2 - 12))), ((newL done (pastL l x0 (wrap64 (x2 - 12)))).map (fun x => x.f0)).foldl Si.withS done) := by
 unfold order_Behind.f
 rw [past_f l h1 h2 hg hb]
 have hp := (pastL_sub l x0 (wrap64 (x2 - 12))).length_le
 have h := behind_l done hd (pastL l x0 (wrap64 (x2 - 12))) (by omega) (pastL l x0 (wrap64 (x2 - 12))).length 0 [] done (by omega) (by simp) (by omega)
 rw [List.drop_zero, List.nil_append] at h
 exact h
def edge (x y : SE) : Prop := y.f1.f1 = x.f1.f1 - 1 ∧ ∃ p ∈ x.f1.f3, p.toList = y.f0.toList
theorem look_mem : ∀ (inn : List (ByteArray × Int)) (d : ByteArray) (v : Int), Si.look inn d = some v → (d, v) ∈ inn
 | [], _, _, h => by simp [Si.look] at h
 | (k, u) :: r, d, v, h => by
  rw [Si.look] at h
  split at h
  ·
   rename_i e; subst e; obtain rfl := Option.some.inj h; simp
  ·
   exact List.mem_cons_of_mem _ (look_mem r d v h)
theorem look_some : ∀ (inn : List (ByteArray × Int)) (d : ByteArray) (v : Int), (d, v) ∈ inn → ∃ u, Si.look inn d = some u
 | (k, u) :: r, d, v, h => by
  rw [Si.look]
  split
  ·
   exact ⟨u, rfl⟩
  ·
   rename_i e
   rcases List.mem_cons.1 h with h | h
   ·
    exact absurd (congrArg Prod.fst h).symm e
   ·
    exact look_some r d v h
theorem steps_spec (tD : ByteArray) (tR r : Int) : ∀ (xs : List Si.DX) (inn : List (ByteArray × Int)) (want next : List ByteArray), xs.Pairwise (fun x y => x.d ≠ y.d) →
  (∀ e, e ∈ (xs.foldl (Si.stepE tD tR r) (inn, want, next)).1 ↔ e ∈ inn ∨ ∃ x ∈ xs, x.d ∈ want ∧ (r = tR → x.d = tD) ∧ e = (x.d, r)) ∧
  (∀ p, p ∈ (xs.foldl (Si.stepE tD tR r) (inn, want, next)).2.2 ↔ p ∈ next ∨ ∃ x ∈ xs, x.d ∈ want ∧ (r = tR → x.d = tD) ∧ p ∈ x.ps)
 | [], inn, want, next, _ => ⟨fun e => by simp, fun p => by simp⟩
 | x :: xs, inn, want, next, h => by
  obtain ⟨h1, h2⟩ := List.pairwise_cons.1 h
  rw [List.foldl_cons]
  by_cases hc : x.d ∈ want ∧ (r = tR → x.d = tD)
  ·
   rw [Si.step_yes hc]
   obtain ⟨i1, i2⟩ := steps_spec tD tR r xs ((x.d, r) :: inn) (want.filter (fun y => decide (y ≠ x.d))) (x.ps.reverse ++ next) h2
   have hw : ∀ y ∈ xs, y.d ∈ want.filter (fun z => decide (z ≠ x.d)) ↔ y.d ∈ want := fun y hy => by
    rw [List.mem_filter]
    exact ⟨fun g => g.1, fun g => ⟨g, decide_eq_true (fun e => h1 y hy e.symm)⟩⟩
   refine ⟨fun e => (i1 e).trans ?_, fun p => (i2 p).trans ?_⟩
   ·
    constructor
    ·
     rintro (g | ⟨y, hy, g1, g2, g3⟩)
     ·
      rcases List.mem_cons.1 g with g | g
      ·
       exact .inr ⟨x, by simp, hc.1, hc.2, g⟩
      ·
       exact .inl g
     ·
      exact .inr ⟨y, List.mem_cons_of_mem _ hy, (hw y hy).1 g1, g2, g3⟩
    ·
     rintro (g | ⟨y, hy, g1, g2, g3⟩)
     ·
      exact .inl (List.mem_cons_of_mem _ g)
     ·
      rcases List.mem_cons.1 hy with e' | hy
      ·
       exact .inl (by rw [g3, e']; simp)
      ·
       exact .inr ⟨y, hy, (hw y hy).2 g1, g2, g3⟩
   ·
    constructor
    ·
     rintro (g | ⟨y, hy, g1, g2, g3⟩)
     ·
      rcases List.mem_append.1 g with g | g
      ·
       exact .inr ⟨x, by simp, hc.1, hc.2, List.mem_reverse.1 g⟩
      ·
       exact .inl g
     ·
      exact .inr ⟨y, List.mem_cons_of_mem _ hy, (hw y hy).1 g1, g2, g3⟩
    ·
     rintro (g | ⟨y, hy, g1, g2, g3⟩)
     ·
      exact .inl (List.mem_append_right _ g)
     ·
      rcases List.mem_cons.1 hy with e' | hy
      ·
       exact .inl (List.mem_append_left _ (List.mem_reverse.2 (e' ▸ g3)))
      ·
       exact .inr ⟨y, hy, (hw y hy).2 g1, g2, g3⟩
  ·
   rw [Si.step_no hc]
   obtain ⟨i1, i2⟩ := steps_spec tD tR r xs inn want next h2
   refine ⟨fun e => (i1 e).trans ?_, fun p => (i2 p).trans ?_⟩
   ·
    constructor
    ·
     rintro (g | ⟨y, hy, g1, g2, g3⟩)
     ·
      exact .inl g
     ·
      exact .inr ⟨y, List.mem_cons_of_mem _ hy, g1, g2, g3⟩
    ·
     rintro (g | ⟨y, hy, g1, g2, g3⟩)
     ·
      exact .inl g
     ·
      rcases List.mem_cons.1 hy with e' | hy
      ·
       exact absurd ⟨e' ▸ g1, e' ▸ g2⟩ hc
      ·
       exact .inr ⟨y, hy, g1, g2, g3⟩
   ·
    constructor
    ·
     rintro (g | ⟨y, hy, g1, g2, g3⟩)
     ·
      exact .inl g
     ·
      exact .inr ⟨y, List.mem_cons_of_mem _ hy, g1, g2, g3⟩
    ·
     rintro (g | ⟨y, hy, g1, g2, g3⟩)
     ·
      exact .inl g
     ·
      rcases List.mem_cons.1 hy with e' | hy
      ·
       exact absurd ⟨e' ▸ g1, e' ▸ g2⟩ hc
      ·
       exact .inr ⟨y, hy, g1, g2, g3⟩
theorem distinct_dx (l : List SE) (hd : l.Pairwise (fun x y => x.f0.toList ≠ y.f0.toList)) (r : Int) : (Si.roundX (l.map toDX) r).Pairwise (fun x y => x.d ≠ y.d) := by
 rw [filter_map_dx, List.pairwise_map]
 exact (hd.filter _).imp (fun h e => h (congrArg ByteArray.toList e))
theorem mem_round (l : List SE) (r : Int) (x : Si.DX) : x ∈ Si.roundX (l.map toDX) r ↔ ∃ y ∈ l, y.f1.f1 = r ∧ x = toDX y := by
 rw [filter_map_dx, List.mem_map]
 constructor
 ·
  rintro ⟨y, hy, rfl⟩
  have := List.mem_filter.1 hy
  exact ⟨y, this.1, by simpa using this.2, rfl⟩
 ·
  rintro ⟨y, hy, hr, rfl⟩
  exact ⟨y, List.mem_filter.2 ⟨hy, by simpa using hr⟩, rfl⟩
theorem rounds_spec (l : List SE) (hb : ∀ x ∈ l, 0 ≤ x.f1.f1 ∧ x.f1.f1 ≤ 60) (hd : l.Pairwise (fun x y => x.f0.toList ≠ y.f0.toList)) (tD : ByteArray) (tR : Int) (P : SE → Prop) (hP : ∀ x ∈ l, ∀ y ∈ l, P x → edge x y → P y) :
  ∀ (m : Nat) (r : Int) (q : List Int) (inn : List (ByteArray × Int)) (want : List ByteArray), -1 ≤ r → r ≤ 60 → r ≤ tR → Si.downO (Si.roundX (l.map toDX)) m r = some q →
  (r = tR → ∀ x ∈ l, x.f1.f1 = r → x.f0 ∈ want → x.f0 = tD → P x) → (r < tR → ∀ x ∈ l, x.f1.f1 = r → x.f0 ∈ want → P x) →
  (∀ e ∈ (q.foldl (Si.roundE tD tR (Si.roundX (l.map toDX))) (inn, want)).1, e ∈ inn ∨ ∃ x ∈ l, e = (x.f0, x.f1.f1) ∧ P x ∧ x.f1.f1 ≤ r) ∧
  (∀ e ∈ inn, e ∈ (q.foldl (Si.roundE tD tR (Si.roundX (l.map toDX))) (inn, want)).1) ∧
  (∀ x ∈ l, x.f1.f1 = r → x.f0 ∈ want → (r = tR → x.f0 = tD) → (x.f0, x.f1.f1) ∈ (q.foldl (Si.roundE tD tR (Si.roundX (l.map toDX))) (inn, want)).1) ∧
  (∀ x ∈ l, x.f1.f1 ≤ r → (x.f0, x.f1.f1) ∈ (q.foldl (Si.roundE tD tR (Si.roundX (l.map toDX))) (inn, want)).1 → (x.f0, x.f1.f1) ∉ inn → ∀ y ∈ l, edge x y → (y.f0, y.f1.f1) ∈ (q.foldl (Si.roundE tD tR (Si.roundX (l.map toDX))) (inn, want)).1)
 | 0, r, q, inn, want, _, _, _, h, _, _ => by simp [Si.downO] at h
 | m + 1, r, q, inn, want, hr0, hr1, hrt, h, w1, w2 => by
  rw [Si.downO] at h
  split at h
  ·
   rename_i hz
   obtain rfl := Option.some.inj h
   have hno : ∀ x ∈ l, x.f1.f1 ≠ r := fun x hx e => by
    have := (mem_round l r (toDX x)).2 ⟨x, hx, e, rfl⟩
    rw [List.eq_nil_of_length_eq_zero hz] at this
    simp at this
   exact ⟨fun e he => .inl he, fun e he => he, fun x hx e => absurd e (hno x hx), fun x hx _ hi hn => absurd hi hn⟩
  ·
   rename_i hz
   have hr : 0 ≤ r := by
    obtain ⟨x, hx⟩ := List.exists_mem_of_length_pos (Nat.pos_of_ne_zero hz)
    obtain ⟨y, hy, e, _⟩ := (mem_round l r x).1 hx
    have := (hb y hy).1
    omega
   rw [w64 (r - 1) (by omega) (by omega)] at h
   obtain ⟨q', hq', rfl⟩ := Option.map_eq_some_iff.1 h
   rw [List.foldl_cons]
   obtain ⟨s1, s2⟩ := steps_spec tD tR r (Si.roundX (l.map toDX) r) inn want [] (distinct_dx l hd r)
   unfold Si.roundE
   dsimp only
   generalize hA : ((Si.roundX (l.map toDX) r).foldl (Si.stepE tD tR r) (inn, want, [])) = A at s1 s2 ⊢
   have hPr : ∀ x ∈ l, x.f1.f1 = r → x.f0 ∈ want → (r = tR → x.f0 = tD) → P x := fun x hx e hw ht => by
    by_cases hrt' : r = tR
    ·
     exact w1 hrt' x hx e hw (ht hrt')
    ·
     exact w2 (by omega) x hx e hw
   obtain ⟨i1, i2, i3, i4⟩ := rounds_spec l hb hd tD tR P hP m (r - 1) q' A.1 A.2.2 (by omega) (by omega) (by omega) hq'
    (fun e => by omega)
    (fun _ x hx e hw => by
     rcases (s2 x.f0).1 hw with g | ⟨y, hy, g1, g2, g3⟩
     ·
      simp at g
     ·
      obtain ⟨z, hz', hzr, rfl⟩ := (mem_round l r y).1 hy
      exact hP z hz' x hx (hPr z hz' hzr g1 g2) ⟨by omega, x.f0, g3, rfl⟩)
   refine ⟨fun e he => ?_, fun e he => i2 e ((s1 e).2 (.inl he)), fun x hx e hw ht => i2 _ ((s1 _).2 (.inr ⟨toDX x, (mem_round l r _).2 ⟨x, hx, e, rfl⟩, hw, ht, by rw [e]; rfl⟩)), fun x hx hxr hin hnot y hy hxy => ?_⟩
   ·
    rcases i1 e he with g | ⟨x, hx, g1, g2, g3⟩
    ·
     rcases (s1 e).1 g with g | ⟨y, hy, g1, g2, g3⟩
     ·
      exact .inl g
     ·
      obtain ⟨z, hz', hzr, rfl⟩ := (mem_round l r y).1 hy
      exact .inr ⟨z, hz', by rw [g3, hzr]; rfl, hPr z hz' hzr g1 g2, by omega⟩
    ·
     exact .inr ⟨x, hx, g1, g2, by omega⟩
   ·
    by_cases hx1 : (x.f0, x.f1.f1) ∈ A.1
    ·
     rcases (s1 _).1 hx1 with g | ⟨z, hz', g1, g2, g3⟩
     ·
      exact absurd g hnot
     ·
      have hxd : x.f0 = z.d := congrArg Prod.fst g3
      have hxr' : x.f1.f1 = r := congrArg Prod.snd g3
      obtain ⟨u, hu, hur, rfl⟩ := (mem_round l r z).1 hz'
      obtain ⟨e1, p, hp, e2⟩ := hxy
      have hwant : y.f0 ∈ A.2.2 := (s2 _).2 (.inr ⟨toDX x, (mem_round l r _).2 ⟨x, hx, hxr', rfl⟩, by show x.f0 ∈ want; rw [hxd]; exact g1, fun e => by show x.f0 = tD; rw [hxd]; exact g2 e, by rw [← Si.ba_ext e2]; exact hp⟩)
      exact i3 y hy (by omega) hwant (fun e => by omega)
    ·
     have hlt : x.f1.f1 ≤ r - 1 := by
      rcases i1 _ hin with g | ⟨z, hz', g1, g2, g3⟩
      ·
       exact absurd g hx1
      ·
       have : x.f1.f1 = z.f1.f1 := congrArg Prod.snd g1
       omega
     exact i4 x hx hlt hin hx1 y hy hxy
theorem inn_least (l : List SE) (hb : ∀ x ∈ l, 0 ≤ x.f1.f1 ∧ x.f1.f1 ≤ 60) (hd : l.Pairwise (fun x y => x.f0.toList ≠ y.f0.toList)) (t : SE) (ht : t ∈ l) (P : SE → Prop) (hP : ∀ x ∈ l, ∀ y ∈ l, P x → edge x y → P y) (hPt : P t) :
  (∀ e ∈ innL l t, ∃ x ∈ l, e = (x.f0, x.f1.f1) ∧ P x ∧ x.f1.f1 ≤ t.f1.f1) ∧ (t.f0, t.f1.f1) ∈ innL l t ∧ (∀ x ∈ l, (x.f0, x.f1.f1) ∈ innL l t → ∀ y ∈ l, edge x y → (y.f0, y.f1.f1) ∈ innL l t) := by
 have h0 := hb t ht
 obtain ⟨q, hq⟩ := down_ok l hb 70 t.f1.f1 (by omega) (by omega) (by omega)
 have e : downsX l t.f1.f1 = q := by unfold downsX; rw [hq]; rfl
 have hinj : ∀ x ∈ l, x.f0 = t.f0 → x = t := fun x hx e => by
  by_cases hne : x = t
  ·
   exact hne
  ·
   exfalso
   obtain ⟨i, hi, rfl⟩ := List.mem_iff_getElem.1 hx
   obtain ⟨j, hj, rfl⟩ := List.mem_iff_getElem.1 ht
   have hp := List.pairwise_iff_getElem.1 hd
   rcases Nat.lt_trichotomy i j with h | h | h
   ·
    exact hp i j hi hj h (congrArg ByteArray.toList e)
   ·
    subst h; exact hne rfl
   ·
    exact hp j i hj hi h (congrArg ByteArray.toList e.symm)
 obtain ⟨i1, i2, i3, i4⟩ := rounds_spec l hb hd t.f0 t.f1.f1 P hP 70 t.f1.f1 q [] [t.f0] (by omega) (by omega) (by omega) hq (fun _ x hx _ _ e => by rw [hinj x hx e]; exact hPt) (fun h => by omega)
 unfold innL Si.pastS
 rw [e]
 refine ⟨fun e he => ?_, i3 t ht rfl (by simp) (fun _ => rfl), fun x hx hi y hy hxy => ?_⟩
 ·
  rcases i1 e he with g | g
  ·
   simp at g
  ·
   exact g
 ·
  rcases i1 _ hi with g | ⟨z, hz, g1, g2, g3⟩
  ·
   simp at g
  ·
   have : x.f1.f1 = z.f1.f1 := congrArg Prod.snd g1
   exact i4 x hx (by omega) hi (by simp) y hy hxy
def bAt (r : List Bool) (i : Nat) : Bool := rdOf false r (i : Int)
theorem bAt_get (r : List Bool) (i : Nat) (h : i < r.length) : bAt r i = r[i] := by
 unfold bAt rdOf
 rw [Int.toNat_natCast, List.getD_eq_getElem?_getD, List.getElem?_eq_getElem h]; rfl
theorem bAt_set (r : List Bool) (k i : Nat) (hk : k < r.length) : bAt (r.set k true) i = if k = i then true else bAt r i := by
 unfold bAt rdOf
 rw [Int.toNat_natCast, List.getD_eq_getElem?_getD, List.getD_eq_getElem?_getD, List.getElem?_set]
 by_cases h : k = i
 ·
  rw [if_pos h, if_pos h, if_pos hk]; rfl
 ·
  rw [if_neg h, if_neg h]
theorem count_lt (r : List Bool) (k : Nat) (hk : k < r.length) (h : bAt r k = false) : (r.set k true).count false < r.count false := by
 rw [bAt_get r k hk] at h
 rw [List.count_set hk, h]
 have : 0 < r.count false := List.count_pos_iff.2 (by rw [← h]; exact List.getElem_mem hk)
 simp
 omega
structure Good (l : List SE) (f : Nat) (P : SE → Prop) (r : List Bool) : Prop where
 len : r.length = l.length
 snd : ∀ (j : Nat) (hj : j < l.length), bAt r j = true → P (l[j])
 fst : bAt r f = true
structure Inv (l : List SE) (f : Nat) (P : SE → Prop) (r0 r : List Bool) (more : Bool) (i k : Nat) : Prop where
 good : Good l f P r
 cnt : r.count false ≤ r0.count false
 mr : more = true → r.count false < r0.count false
 eq : more = false → r = r0
 ok : more = false → ∀ (i' k' : Nat) (hi : i' < l.length) (hk : k' < l.length), (i' < i ∨ i' = i ∧ k' < k) → bAt r0 i' = true → bAt r0 k' = false → ¬ edge (l[i']) (l[k'])
def Closed (l : List SE) (r : List Bool) : Prop := ∀ (i k : Nat) (hi : i < l.length) (hk : k < l.length), bAt r i = true → edge (l[i]) (l[k]) → bAt r k = true
theorem reach_l4 (l : List SE) (hl : l.length ≤ 1048576) (a b : Int) (i k : Nat) (hi : i < l.length) (hk : k < l.length) (hps : (l[i]).f1.f3.length ≤ 1048576) (R : List Bool → Prop) : ∀ (n p : Nat) (r : List Bool) (more : Bool), p + n = (l[i]).f1.f3.length → r.length = l.length →
  ((∀ q ∈ (l[i]).f1.f3.drop p, q.toList ≠ (l[k]).f0.toList) → ∃ o, Evk (fun kk => selvedgeref11_reach.l3 kk r more (i : Int) ((k + 1 : Nat) : Int) a b l) o ∧ R o) →
  ((∃ q ∈ (l[i]).f1.f3.drop p, q.toList = (l[k]).f0.toList) → ∃ o, Evk (fun kk => selvedgeref11_reach.l3 kk (r.set k true) true (i : Int) ((k + 1 : Nat) : Int) a b l) o ∧ R o) →
  ∃ o, Evk (fun kk => selvedgeref11_reach.l4 kk r more (i : Int) (k : Int) (p : Int) a b l) o ∧ R o
 | 0, p, r, more, h, hr, h1, h2 => by
  obtain ⟨o, g1, g2⟩ := h1 (by rw [List.drop_eq_nil_of_le (by omega)]; simp)
  refine ⟨o, Evk.step g1 (fun kk => ?_), g2⟩
  have e := rdE_eq l i hi
  rw [selvedgeref11_reach.l4, if_pos (by omega), if_pos (by omega), e, if_neg (by omega), ws k (by omega)]
 | n + 1, p, r, more, h, hr, h1, h2 => by
  have e := rdE_eq l i hi
  have e' := rdE_eq l k hk
  have hp : p < (l[i]).f1.f3.length := by omega
  have ep := rdOf_eq (l[i]).f1.f3 p hp
  rw [List.drop_eq_getElem_cons hp] at h1 h2
  by_cases hq : ((l[i]).f1.f3[p]).toList = (l[k]).f0.toList
  ·
   have hset := h2 ⟨_, List.mem_cons_self, hq⟩
   obtain ⟨o, g1, g2⟩ := reach_l4 l hl a b i k hi hk hps R n (p + 1) (r.set k true) true (by omega) (by rw [List.length_set]; exact hr) (fun _ => hset) (fun _ => by rw [List.set_set]; exact hset)
   refine ⟨o, Evk.step g1 (fun kk => ?_), g2⟩
   rw [selvedgeref11_reach.l4, if_pos (by omega), if_pos (by omega), e, if_pos (by omega), if_pos (by omega), if_pos (by omega), if_pos (by omega), ep, e', if_pos hq, if_pos (by omega), ws p (by omega), Int.toNat_natCast]
  ·
   obtain ⟨o, g1, g2⟩ := reach_l4 l hl a b i k hi hk hps R n (p + 1) r more (by omega) hr
    (fun hno => h1 (fun q hq' => by rcases List.mem_cons.1 hq' with rfl | hq'; exact hq; exact hno q hq'))
    (fun ⟨q, hq1, hq2⟩ => h2 ⟨q, List.mem_cons_of_mem _ hq1, hq2⟩)
   refine ⟨o, Evk.step g1 (fun kk => ?_), g2⟩
   rw [selvedgeref11_reach.l4, if_pos (by omega), if_pos (by omega), e, if_pos (by omega), if_pos (by omega), if_pos (by omega), if_pos (by omega), ep, e', if_neg hq, ws p (by omega)]
theorem reach_l3 (l : List SE) (hl : l.length ≤ 1048576) (hb : ∀ x ∈ l, 0 ≤ x.f1.f1 ∧ x.f1.f1 ≤ 60) (hps : ∀ x ∈ l, x.f1.f3.length ≤ 1048576) (a b : Int) (f : Nat) (P : SE → Prop) (hP : ∀ x ∈ l, ∀ y ∈ l, P x → edge x y → P y) (R : List Bool → Prop) (r0 : List Bool) (i : Nat) (hi : i < l.length)
  (hn : ∀ (r : List Bool) (more : Bool), Inv l f P r0 r more (i + 1) 0 → ∃ o, Evk (fun kk => selvedgeref11_reach.l2 kk r more ((i + 1 : Nat) : Int) a b l) o ∧ R o) :
  ∀ (n k : Nat) (r : List Bool) (more : Bool), k + n = l.length → Inv l f P r0 r more i k → ∃ o, Evk (fun kk => selvedgeref11_reach.l3 kk r more (i : Int) (k : Int) a b l) o ∧ R o
 | 0, k, r, more, h, hv => by
  obtain ⟨o, g1, g2⟩ := hn r more ⟨hv.good, hv.cnt, hv.mr, hv.eq, fun hm i' k' hi' hk' hik => hv.ok hm i' k' hi' hk' (by omega)⟩
  refine ⟨o, ?_, g2⟩
  have hj : Evk (fun kk => selvedgeref11_reach.j4 kk r more (i : Int) (k : Int) false a b l) o := Evk.step g1 (fun kk => by rw [selvedgeref11_reach.j4, if_neg (by decide), ws i (by omega)])
  exact Evk.step hj (fun kk => by rw [selvedgeref11_reach.l3, if_neg (by omega)])
 | n + 1, k, r, more, h, hv => by
  have hk : k < l.length := by omega
  have hr := hv.good.len
  have e := rdE_eq l i hi
  have e' := rdE_eq l k hk
  have bi := hb _ (List.getElem_mem hi)
  have ihn : ∀ (r' : List Bool) (more' : Bool), Inv l f P r0 r' more' i (k + 1) → ∃ o, Evk (fun kk => selvedgeref11_reach.l3 kk r' more' (i : Int) ((k + 1 : Nat) : Int) a b l) o ∧ R o := fun r' more' hv' => reach_l3 l hl hb hps a b f P hP R r0 i hi hn n (k + 1) r' more' (by omega) hv'
  have hkeep : (more = false → bAt r0 i = true → bAt r0 k = false → ¬ edge (l[i]) (l[k])) → Inv l f P r0 r more i (k + 1) := fun hno => ⟨hv.good, hv.cnt, hv.mr, hv.eq, fun hm i' k' hi' hk' hik => by
   by_cases hik' : i' = i ∧ k' = k
   ·
    obtain ⟨rfl, rfl⟩ := hik'
    exact hno hm
   ·
    exact hv.ok hm i' k' hi' hk' (by omega)⟩
  cases hbi : bAt r i with
  | false =>
   obtain ⟨o, g1, g2⟩ := hn r more ⟨hv.good, hv.cnt, hv.mr, hv.eq, fun hm i' k' hi' hk' hik hb1 => by
    by_cases hii : i' = i
    ·
     subst hii
     rw [← hv.eq hm, hbi] at hb1
     cases hb1
    ·
     exact hv.ok hm i' k' hi' hk' (by omega) hb1⟩
   refine ⟨o, ?_, g2⟩
   have hj : Evk (fun kk => selvedgeref11_reach.j4 kk r more (i : Int) (k : Int) false a b l) o := Evk.step g1 (fun kk => by rw [selvedgeref11_reach.j4, if_neg (by decide), ws i (by omega)])
   exact Evk.step hj (fun kk => by rw [selvedgeref11_reach.l3, if_pos (by omega), if_pos (by omega), if_pos (by omega), show rdOf false r (i : Int) = false from hbi])
  | true =>
   have hj5 : ∃ o, Evk (fun kk => selvedgeref11_reach.j4 kk r more (i : Int) (k : Int) true a b l) o ∧ R o := by
    cases hbk : bAt r k with
    | true =>
     obtain ⟨o, g1, g2⟩ := ihn r more (hkeep (fun hm _ hb2 => by rw [← hv.eq hm, hbk] at hb2; cases hb2))
     refine ⟨o, ?_, g2⟩
     have hj : Evk (fun kk => selvedgeref11_reach.j5 kk r more (i : Int) (k : Int) true a b l) o := Evk.step g1 (fun kk => by rw [selvedgeref11_reach.j5, if_pos rfl, ws k (by omega)])
     exact Evk.step hj (fun kk => by rw [selvedgeref11_reach.j4, if_pos rfl, if_pos (by omega), if_pos (by omega), if_pos (show rdOf false r (k : Int) = true from hbk)])
    | false =>
     have hgo : ∀ (z : Bool) (o : List Bool), Evk (fun kk => selvedgeref11_reach.j5 kk r more (i : Int) (k : Int) z a b l) o → ((l[k]).f1.f1 != wrap64 ((l[i]).f1.f1 - 1)) = z → Evk (fun kk => selvedgeref11_reach.j4 kk r more (i : Int) (k : Int) true a b l) o := fun z o hz hzz =>
      Evk.step hz (fun kk => by rw [selvedgeref11_reach.j4, if_pos rfl, if_pos (by omega), if_pos (by omega), if_neg (by rw [show rdOf false r (k : Int) = false from hbk]; decide), if_pos (by omega), if_pos (by omega), if_pos (by omega), e, e', hzz])
     have ew := w64 ((l[i]).f1.f1 - 1) (by omega) (by omega)
     by_cases hrd : (l[k]).f1.f1 = (l[i]).f1.f1 - 1
     ·
      obtain ⟨o, g1, g2⟩ := reach_l4 l hl a b i k hi hk (hps _ (List.getElem_mem hi)) R (l[i]).f1.f3.length 0 r more (by omega) hr
       (fun hno => ihn r more (hkeep (fun _ _ _ hedge => by
        obtain ⟨_, p, hp, hp2⟩ := hedge
        exact hno p (by rw [List.drop_zero]; exact hp) hp2)))
       (fun ⟨q, hq1, hq2⟩ => by
        rw [List.drop_zero] at hq1
        have hc := count_lt r k (by omega) hbk
        refine ihn (r.set k true) true ⟨⟨by rw [List.length_set]; exact hr, fun j hj hbj => ?_, ?_⟩, by have := hv.cnt; omega, fun _ => by have := hv.cnt; omega, fun hm => (by cases hm), fun hm => (by cases hm)⟩
        ·
         rw [bAt_set r k j (by omega)] at hbj
         by_cases hkj : k = j
         ·
          subst hkj
          exact hP _ (List.getElem_mem hi) _ (List.getElem_mem hk) (hv.good.snd i hi hbi) ⟨hrd, q, hq1, hq2⟩
         ·
          rw [if_neg hkj] at hbj
          exact hv.good.snd j hj hbj
        ·
         rw [bAt_set r k f (by omega), hv.good.fst]
         split <;> rfl)
      refine ⟨o, hgo false o ?_ (by rw [ew, hrd]; simp), g2⟩
      exact Evk.step g1 (fun kk => by rw [selvedgeref11_reach.j5, if_neg (by decide)]; rfl)
     ·
      obtain ⟨o, g1, g2⟩ := ihn r more (hkeep (fun _ _ _ hedge => hrd hedge.1))
      refine ⟨o, hgo true o ?_ (by rw [ew]; exact bne_iff_ne.2 hrd), g2⟩
      exact Evk.step g1 (fun kk => by rw [selvedgeref11_reach.j5, if_pos rfl, ws k (by omega)])
   obtain ⟨o, g1, g2⟩ := hj5
   exact ⟨o, Evk.step g1 (fun kk => by rw [selvedgeref11_reach.l3, if_pos (by omega), if_pos (by omega), if_pos (by omega), show rdOf false r (i : Int) = true from hbi]), g2⟩
theorem reach_l2 (l : List SE) (hl : l.length ≤ 1048576) (hb : ∀ x ∈ l, 0 ≤ x.f1.f1 ∧ x.f1.f1 ≤ 60) (hps : ∀ x ∈ l, x.f1.f3.length ≤ 1048576) (a b : Int) (f : Nat) (P : SE → Prop) (hP : ∀ x ∈ l, ∀ y ∈ l, P x → edge x y → P y) (R : List Bool → Prop) (r0 : List Bool)
  (hn : ∀ (r : List Bool) (more : Bool), Inv l f P r0 r more l.length 0 → ∃ o, Evk (fun kk => selvedgeref11_reach.l1 kk r more a b l) o ∧ R o) :
  ∀ (n i : Nat) (r : List Bool) (more : Bool), i + n = l.length → Inv l f P r0 r more i 0 → ∃ o, Evk (fun kk => selvedgeref11_reach.l2 kk r more (i : Int) a b l) o ∧ R o
 | 0, i, r, more, h, hv => by
  have hil : i = l.length := by omega
  subst hil
  obtain ⟨o, g1, g2⟩ := hn r more hv
  exact ⟨o, Evk.step g1 (fun kk => by rw [selvedgeref11_reach.l2, if_neg (by omega)]), g2⟩
 | n + 1, i, r, more, h, hv => by
  have hi : i < l.length := by omega
  obtain ⟨o, g1, g2⟩ := reach_l3 l hl hb hps a b f P hP R r0 i hi (fun r' more' hv' => reach_l2 l hl hb hps a b f P hP R r0 hn n (i + 1) r' more' (by omega) hv') l.length 0 r more (by omega) hv
  exact ⟨o, Evk.step g1 (fun kk => by rw [selvedgeref11_reach.l2, if_pos (by omega)]; rfl), g2⟩
theorem reach_l1 (l : List SE) (hl : l.length ≤ 1048576) (hb : ∀ x ∈ l, 0 ≤ x.f1.f1 ∧ x.f1.f1 ≤ 60) (hps : ∀ x ∈ l, x.f1.f3.length ≤ 1048576) (a b : Int) (f : Nat) (P : SE → Prop) (hP : ∀ x ∈ l, ∀ y ∈ l, P x → edge x y → P y) :
  ∀ (n : Nat) (r : List Bool), r.count false < n → Good l f P r → ∃ o, Evk (fun kk => selvedgeref11_reach.l1 kk r true a b l) o ∧ (Good l f P o ∧ Closed l o)
 | 0, r, h, _ => by omega
 | n + 1, r, h, hg => by
  obtain ⟨o, g1, g2⟩ := reach_l2 l hl hb hps a b f P hP (fun o => Good l f P o ∧ Closed l o) r (fun r' more' hv => by
   cases hm : more' with
   | true =>
    have := hv.mr hm
    exact reach_l1 l hl hb hps a b f P hP n r' (by omega) hv.good
   | false =>
    refine ⟨r', Evk.step (Evk.ret r') (fun kk => by rw [selvedgeref11_reach.l1, if_neg (by decide)]), hv.good, fun i k hi hk hbi hedge => ?_⟩
    cases hbk : bAt r' k with
    | true => rfl
    | false =>
     rw [hv.eq hm] at hbi hbk
     exact absurd hedge (hv.ok hm i k hi hk (.inl hi) hbi hbk)) l.length 0 r false (by omega) ⟨hg, Nat.le_refl _, fun h => (by cases h), fun _ => rfl, fun _ i' k' _ _ hik => by omega⟩
  exact ⟨o, Evk.step g1 (fun kk => by rw [selvedgeref11_reach.l1, if_pos rfl]; rfl), g2⟩
theorem same_entry (l : List SE) (hd : l.Pairwise (fun x y => x.f0.toList ≠ y.f0.toList)) : ∀ x ∈ l, ∀ y ∈ l, x.f0 = y.f0 → x = y := by
 intro x hx y hy e
 by_cases hne : x = y
 ·
  exact hne
 ·
  exfalso
  obtain ⟨i, hi, rfl⟩ := List.mem_iff_getElem.1 hx
  obtain ⟨j, hj, rfl⟩ := List.mem_iff_getElem.1 hy
  have hp := List.pairwise_iff_getElem.1 hd
  rcases Nat.lt_trichotomy i j with h | h | h
  ·
   exact hp i j hi hj h (congrArg ByteArray.toList e)
  ·
   subst h; exact hne rfl
  ·
   exact hp j i hj hi h (congrArg ByteArray.toList e.symm)
theorem sel_iff (l : List SE) (hb : ∀ x ∈ l, 0 ≤ x.f1.f1 ∧ x.f1.f1 ≤ 60) (hd : l.Pairwise (fun x y => x.f0.toList ≠ y.f0.toList)) (t : SE) (ht : t ∈ l) (lo : Int) (x : SE) (hx : x ∈ l) : Si.selX (innL l t) lo (toDX x) = (decide ((x.f0, x.f1.f1) ∈ innL l t) && decide (x.f1.f1 > lo)) := by
 obtain ⟨h1, _, _⟩ := inn_least l hb hd t ht (fun _ => True) (fun _ _ _ _ _ _ => trivial) trivial
 unfold Si.selX
 show (match Si.look (innL l t) x.f0 with | some v => v == x.f1.f1 && decide (v > lo) | none => false) = _
 cases hv : Si.look (innL l t) x.f0 with
 | none =>
  have hn : (x.f0, x.f1.f1) ∉ innL l t := fun h => by
   obtain ⟨u, hu⟩ := look_some _ _ _ h
   rw [hv] at hu
   cases hu
  rw [decide_eq_false hn]; rfl
 | some v =>
  have hm := look_mem _ _ _ hv
  obtain ⟨y, hy, e, _, _⟩ := h1 _ hm
  have e1 : x.f0 = y.f0 := congrArg Prod.fst e
  have e2 : v = y.f1.f1 := congrArg Prod.snd e
  have exy := same_entry l hd x hx y hy e1
  subst exy
  subst e2
  rw [decide_eq_true hm]
  simp
theorem pastL_eq (l : List SE) (hb : ∀ x ∈ l, 0 ≤ x.f1.f1 ∧ x.f1.f1 ≤ 60) (hd : l.Pairwise (fun x y => x.f0.toList ≠ y.f0.toList)) (dg : ByteArray) (lo : Int) (t : SE) (hf : l.find? (fun x => x.f0.toList == dg.toList) = some t) : pastL l dg lo = l.filter (fun x => decide ((x.f0, x.f1.f1) ∈ innL l t) && decide (x.f1.f1 > lo)) := by
 unfold pastL
 rw [hf]
 exact List.filter_congr (fun x hx => sel_iff l hb hd t (List.mem_of_find?_eq_some hf) lo x hx)
theorem reach_l0 (l : List SE) (hl : l.length ≤ 1048576) (a b : Int) (dg : ByteArray) (x5 : List Bool) (R : List Bool → Prop) : ∀ (n : Nat) (x6 : Int), n ≤ l.length →
  (∀ y6 : Int, (y6 = x6 ∧ ∀ (j : Nat) (hj : j < l.length), j < n → (l[j]).f0.toList ≠ dg.toList) ∨ (∃ (j : Nat) (hj : j < l.length), y6 = (j : Int) ∧ (l[j]).f0.toList = dg.toList ∧ ∀ (i : Nat) (hi : i < j), (l[i]'(by omega)).f0.toList ≠ dg.toList) → ∃ o, Evk (fun kk => selvedgeref11_reach.l0 kk dg x5 y6 (-1) a b l) o ∧ R o) →
  ∃ o, Evk (fun kk => selvedgeref11_reach.l0 kk dg x5 x6 ((n : Int) - 1) a b l) o ∧ R o
 | 0, x6, hn, h => h x6 (.inl ⟨rfl, fun j hj hj0 => by omega⟩)
 | n + 1, x6, hn, h => by
  have hi : n < l.length := by omega
  have e := rdE_eq l n hi
  have ew := w64 ((n : Int) - 1) (by omega) (by omega)
  have ex : (((n + 1 : Nat) : Int) - 1) = (n : Int) := by omega
  rw [ex]
  by_cases hq : (l[n]).f0.toList = dg.toList
  ·
   obtain ⟨o, g1, g2⟩ := reach_l0 l hl a b dg x5 R n (n : Int) (by omega) (fun y6 hy => h y6 (.inr (by
    rcases hy with ⟨rfl, hno⟩ | hy
    ·
     exact ⟨n, hi, rfl, hq, fun i hi' => hno i (by omega) hi'⟩
    ·
     exact hy)))
   refine ⟨o, Evk.step g1 (fun kk => ?_), g2⟩
   rw [selvedgeref11_reach.l0, if_pos (by omega), if_pos (by omega), if_pos (by omega), e, if_pos hq, ew]
  ·
   obtain ⟨o, g1, g2⟩ := reach_l0 l hl a b dg x5 R n x6 (by omega) (fun y6 hy => h y6 (by
    rcases hy with ⟨rfl, hno⟩ | hy
    ·
     refine .inl ⟨rfl, fun j hj hjn => ?_⟩
     by_cases hjn' : j = n
     ·
      subst hjn'; exact hq
     ·
      exact hno j hj (by omega)
    ·
     exact .inr hy))
   refine ⟨o, Evk.step g1 (fun kk => ?_), g2⟩
   rw [selvedgeref11_reach.l0, if_pos (by omega), if_pos (by omega), if_pos (by omega), e, if_neg hq, ew]
theorem find_first (l : List SE) (dg : ByteArray) (j : Nat) (hj : j < l.length) (h1 : (l[j]).f0.toList = dg.toList) (h2 : ∀ (i : Nat) (hi : i < j), (l[i]'(by omega)).f0.toList ≠ dg.toList) : l.find? (fun x => x.f0.toList == dg.toList) = some (l[j]) := by
 rw [List.find?_eq_some_iff_getElem]
 refine ⟨by simpa using h1, j, hj, rfl, fun i hi => ?_⟩
 have := h2 i hi
 simpa using this
theorem bAt_rep (n i : Nat) : bAt (List.replicate n false) i = false := by
 unfold bAt rdOf
 rw [Int.toNat_natCast, List.getD_eq_getElem?_getD, List.getElem?_replicate]
 split <;> rfl
theorem reach_ev (l : List SE) (hl : l.length ≤ 1048576) (hb : ∀ x ∈ l, 0 ≤ x.f1.f1 ∧ x.f1.f1 ≤ 60) (hd : l.Pairwise (fun x y => x.f0.toList ≠ y.f0.toList)) (hps : ∀ x ∈ l, x.f1.f3.length ≤ 1048576) (a b : Int) (dg : ByteArray) :
  ∃ o, Evk (fun kk => selvedgeref11_reach.f kk a b l dg) o ∧ (o.length = l.length ∧ ∀ lo : Int, pastL l dg lo = [] ∧ (∀ j, bAt o j = false) ∨ ∃ t, pastL l dg lo = l.filter (fun x => decide ((x.f0, x.f1.f1) ∈ innL l t) && decide (x.f1.f1 > lo)) ∧ ∀ (j : Nat) (hj : j < l.length), bAt o j = decide (((l[j]).f0, (l[j]).f1.f1) ∈ innL l t)) := by
 have h0 := reach_l0 l hl a b dg (List.replicate l.length false) (fun o => o.length = l.length ∧ ∀ lo : Int, pastL l dg lo = [] ∧ (∀ j, bAt o j = false) ∨ ∃ t, pastL l dg lo = l.filter (fun x => decide ((x.f0, x.f1.f1) ∈ innL l t) && decide (x.f1.f1 > lo)) ∧ ∀ (j : Nat) (hj : j < l.length), bAt o j = decide (((l[j]).f0, (l[j]).f1.f1) ∈ innL l t)) l.length (-1) (Nat.le_refl _) ?_
 ·
  obtain ⟨o, g1, g2⟩ := h0
  refine ⟨o, Evk.of_eq g1 (fun kk => ?_), g2⟩
  rw [selvedgeref11_reach.f, if_pos (by omega), if_pos (by rw [Int.toNat_natCast]; omega), Int.toNat_natCast, w64 ((l.length : Int) - 1) (by omega) (by omega)]
 ·
  rintro y6 (⟨rfl, hno⟩ | ⟨j, hj, rfl, hm, hbf⟩)
  ·
   refine ⟨List.replicate l.length false, Evk.step (Evk.ret _) (fun kk => by rw [selvedgeref11_reach.l0, if_neg (by omega), if_pos (by omega)]), List.length_replicate, fun lo => .inl ⟨?_, fun j => bAt_rep _ _⟩⟩
   unfold pastL
   have : l.find? (fun x => x.f0.toList == dg.toList) = none := List.find?_eq_none.2 (fun x hx => by
    obtain ⟨i, hi, rfl⟩ := List.mem_iff_getElem.1 hx
    simpa using hno i hi hi)
   rw [this]
  ·
   have hf := find_first l dg j hj hm hbf
   have htm := List.getElem_mem hj
   have hlen : (List.replicate l.length false).length = l.length := List.length_replicate
   have hP : ∀ x ∈ l, ∀ y ∈ l, (x.f0, x.f1.f1) ∈ innL l (l[j]) → edge x y → (y.f0, y.f1.f1) ∈ innL l (l[j]) := fun x hx y hy h1 h2 => (inn_least l hb hd (l[j]) htm (fun _ => True) (fun _ _ _ _ _ _ => trivial) trivial).2.2 x hx h1 y hy h2
   obtain ⟨o, g1, g2, g3⟩ := reach_l1 l hl hb hps a b j (fun x => (x.f0, x.f1.f1) ∈ innL l (l[j])) hP (l.length + 1) ((List.replicate l.length false).set j true) (by
     have := List.count_le_length (a := false) (l := (List.replicate l.length false).set j true)
     rw [List.length_set, hlen] at this; omega) ⟨by rw [List.length_set]; exact hlen, fun i hi hbi => by
     rw [bAt_set _ j i (by omega)] at hbi
     by_cases hji : j = i
     ·
      subst hji
      exact (inn_least l hb hd (l[j]) htm (fun _ => True) (fun _ _ _ _ _ _ => trivial) trivial).2.1
     ·
      rw [if_neg hji, bAt_rep] at hbi
      exact absurd hbi (by decide), by rw [bAt_set _ j j (by omega), if_pos rfl]⟩
   refine ⟨o, Evk.step g1 (fun kk => by rw [selvedgeref11_reach.l0, if_neg (by omega), if_neg (by omega), if_pos (by omega), if_pos (by omega), Int.toNat_natCast]), g2.len, fun lo => .inr ⟨l[j], pastL_eq l hb hd dg lo (l[j]) hf, fun i hi => ?_⟩⟩
   by_cases hin : ((l[i]).f0, (l[i]).f1.f1) ∈ innL l (l[j])
   ·
    rw [decide_eq_true hin]
    obtain ⟨q1, _, _⟩ := inn_least l hb hd (l[j]) htm (fun x => ∃ (i : Nat) (hi : i < l.length), x = l[i] ∧ bAt o i = true) (fun x hx y hy ⟨i, hi, ex, hbi⟩ hxy => by
     obtain ⟨k, hk, rfl⟩ := List.mem_iff_getElem.1 hy
     subst ex
     exact ⟨k, hk, rfl, g3 i k hi hk hbi hxy⟩) ⟨j, hj, rfl, g2.fst⟩
    obtain ⟨y, hy, e, ⟨k, hk, ek, hbk⟩, _⟩ := q1 _ hin
    have exy := same_entry l hd _ (List.getElem_mem hi) y hy (congrArg Prod.fst e)
    rw [← exy] at ek
    have hik : i = k := by
     have hp := List.pairwise_iff_getElem.1 hd
     rcases Nat.lt_trichotomy i k with h | h | h
     ·
      exact absurd (by rw [← ek]) (hp i k hi hk h)
     ·
      exact h
     ·
      exact absurd (by rw [← ek]) (hp k i hk hi h)
    rw [hik]; exact hbk
   ·
    rw [decide_eq_false hin]
    cases hbi : bAt o i with
    | false => rfl
    | true => exact absurd (g2.snd i hi hbi) hin
theorem rpast_l (l : List SE) (hl : l.length ≤ 1048576) (a b lo : Int) (o : List Bool) (ho : o.length = l.length) (g : SE → Bool) (hg : ∀ (j : Nat) (hj : j < l.length), g (l[j]) = (bAt o j && decide ((l[j]).f1.f1 > lo))) : ∀ (n i : Nat) (acc : List SE), i + n = l.length → acc.length ≤ i → Evk (fun kk => selvedgeref11_Past.l0 kk lo o acc (i : Int) a b l) (acc ++ (l.drop i).filter g)
 | 0, i, acc, h, ha => by
  rw [List.drop_eq_nil_of_le (by omega), List.filter_nil, List.append_nil]
  exact Evk.step (Evk.ret acc) (fun kk => by rw [selvedgeref11_Past.l0, if_neg (by omega)])
 | n + 1, i, acc, h, ha => by
  have hi : i < l.length := by omega
  have e := rdE_eq l i hi
  have ew := ws i (by omega)
  have hgi := hg i hi
  rw [List.drop_eq_getElem_cons hi, List.filter_cons]
  cases hbi : bAt o i with
  | false =>
   rw [hbi, Bool.false_and] at hgi
   rw [hgi, if_neg (by decide)]
   exact Evk.step (rpast_l l hl a b lo o ho g hg n (i + 1) acc (by omega) (by omega)) (fun kk => by rw [selvedgeref11_Past.l0, if_pos (by omega), if_pos (by omega), if_pos (by omega), if_neg (by rw [show rdOf false o (i : Int) = false from hbi]; decide), ew])
  | true =>
   rw [hbi, Bool.true_and] at hgi
   by_cases hq : (l[i]).f1.f1 > lo
   ·
    rw [hgi, decide_eq_true hq, if_pos rfl]
    have ih := rpast_l l hl a b lo o ho g hg n (i + 1) (acc ++ [l[i]]) (by omega) (by rw [List.length_append]; simp; omega)
    rw [List.append_assoc] at ih
    exact Evk.step ih (fun kk => by rw [selvedgeref11_Past.l0, if_pos (by omega), if_pos (by omega), if_pos (by omega), if_pos (show rdOf false o (i : Int) = true from hbi), e, if_pos hq, if_pos (show acc.length < 1466015503701 by omega), ew])
   ·
    rw [hgi, decide_eq_false hq, if_neg (by decide)]
    exact Evk.step (rpast_l l hl a b lo o ho g hg n (i + 1) acc (by omega) (by omega)) (fun kk => by rw [selvedgeref11_Past.l0, if_pos (by omega), if_pos (by omega), if_pos (by omega), if_pos (show rdOf false o (i : Int) = true from hbi), e, if_neg hq, ew])
theorem rpast_ev (l : List SE) (hl : l.length ≤ 1048576) (hb : ∀ x ∈ l, 0 ≤ x.f1.f1 ∧ x.f1.f1 ≤ 60) (hd : l.Pairwise (fun x y => x.f0.toList ≠ y.f0.toList)) (hps : ∀ x ∈ l, x.f1.f3.length ≤ 1048576) (a b : Int) (dg : ByteArray) (lo : Int) : Evk (fun kk => selvedgeref11_Past.f kk a b l dg lo) (pastL l dg lo) := by
 obtain ⟨o, g1, g2, g3⟩ := reach_ev l hl hb hd hps a b dg
 refine Evk.bind g1 ?_
 rcases g3 lo with ⟨e, hno⟩ | ⟨t, e, hin⟩
 ·
  rw [e]
  have h := rpast_l l hl a b lo o g2 (fun _ => false) (fun j hj => by rw [hno j]; rfl) l.length 0 [] (by omega) (by simp)
  rw [List.drop_zero, List.nil_append, show l.filter (fun _ : SE => false) = [] from List.filter_eq_nil_iff.2 (fun _ _ h => by cases h)] at h
  exact h
 ·
  rw [e]
  have h := rpast_l l hl a b lo o g2 (fun x => decide ((x.f0, x.f1.f1) ∈ innL l t) && decide (x.f1.f1 > lo)) (fun j hj => by rw [hin j hj]) l.length 0 [] (by omega) (by simp)
  rw [List.drop_zero, List.nil_append] at h
  exact h
theorem bt_eq (s : ByteArray) (i : Nat) (h : i < s.data.toList.length) : bt s (i : Int) = ((s.data.toList[i]).toNat : Int) := by
 have h' : i < s.size := by rw [Array.length_toList] at h; exact h
 unfold bt
 rw [dif_pos (by rw [Int.toNat_natCast]; exact h')]
 simp only [Int.toNat_natCast]
 rfl
theorem less_l (a b : ByteArray) (ha : a.size ≤ 140737488351232) (hb : b.size ≤ 140737488351232) : ∀ (n i : Nat), i + n = a.size → i ≤ b.size → Evk (fun kk => selvedgeref01_Less.l0 kk a b (i : Int)) (Op.bytesLess (a.data.toList.drop i) (b.data.toList.drop i))
 | n, i, h, hib => by
  have la : a.data.toList.length = a.size := Array.length_toList
  have lb : b.data.toList.length = b.size := Array.length_toList
  cases n with
  | zero =>
   rw [List.drop_eq_nil_of_le (show a.data.toList.length ≤ i by omega)]
   have hj : Evk (fun kk => selvedgeref01_Less.j1 kk a b (i : Int) false) (Op.bytesLess [] (b.data.toList.drop i)) := by
    refine Evk.step (Evk.ret _) (fun kk => ?_)
    rw [selvedgeref01_Less.j1, if_neg (by decide)]
    congr 1
    by_cases hl : i < b.size
    ·
     rw [List.drop_eq_getElem_cons (show i < b.data.toList.length by omega)]
     exact decide_eq_true (by omega)
    ·
     rw [List.drop_eq_nil_of_le (show b.data.toList.length ≤ i by omega)]
     exact decide_eq_false (by omega)
   exact Evk.step hj (fun kk => by rw [selvedgeref01_Less.l0, if_neg (by omega)])
  | succ n =>
   have hia : i < a.data.toList.length := by omega
   rw [List.drop_eq_getElem_cons hia]
   by_cases hl : i < b.size
   ·
    have hib' : i < b.data.toList.length := by omega
    rw [List.drop_eq_getElem_cons hib']
    have e1 := bt_eq a i hia
    have e2 := bt_eq b i hib'
    have hgo : ∀ v : Bool, Evk (fun kk => if (bt a (i : Int)) = (bt b (i : Int)) then (selvedgeref01_Less.l0 kk a b ((i + 1 : Nat) : Int)) else (some (decide ((bt a (i : Int)) < (bt b (i : Int)))))) v → Evk (fun kk => selvedgeref01_Less.l0 kk a b (i : Int)) v := fun v hv => by
     have hj : Evk (fun kk => selvedgeref01_Less.j1 kk a b (i : Int) true) v := Evk.step hv (fun kk => by rw [selvedgeref01_Less.j1, if_pos rfl, if_pos (by omega), if_pos (by omega), if_pos (by omega), ws i (by omega)])
     exact Evk.step hj (fun kk => by rw [selvedgeref01_Less.l0, if_pos (by omega), decide_eq_true (show (i : Int) < (b.size : Int) by omega)])
    refine hgo _ ?_
    rw [e1, e2]
    generalize hx : a.data.toList[i] = x
    generalize hy : b.data.toList[i] = y
    rw [Op.bytesLess]
    by_cases hxy : x = y
    ·
     subst hxy
     have hn : ¬ x < x := UInt8.lt_irrefl x
     rw [decide_eq_false hn, Bool.false_or, beq_self_eq_true, Bool.true_and]
     exact Evk.of_eq (less_l a b ha hb n (i + 1) (by omega) (by omega)) (fun kk => if_pos rfl)
    ·
     have hne : ¬ ((x.toNat : Int) = (y.toNat : Int)) := fun h => hxy (UInt8.toNat_inj.1 (by omega))
     rw [beq_eq_false_iff_ne.2 hxy, Bool.false_and, Bool.or_false]
     refine Evk.of_eq (Evk.ret _) (fun kk => ?_)
     rw [if_neg hne]
     congr 1
     by_cases hlt : x < y
     ·
      have := UInt8.lt_iff_toNat_lt.1 hlt
      rw [decide_eq_true hlt, decide_eq_true (by omega)]
     ·
      have : ¬ x.toNat < y.toNat := fun h => hlt (UInt8.lt_iff_toNat_lt.2 h)
      rw [decide_eq_false hlt, decide_eq_false (by omega)]
   ·
    rw [List.drop_eq_nil_of_le (show b.data.toList.length ≤ i by omega)]
    have hj : Evk (fun kk => selvedgeref01_Less.j1 kk a b (i : Int) false) (Op.bytesLess (a.data.toList[i] :: a.data.toList.drop (i + 1)) []) := by
     refine Evk.step (Evk.ret _) (fun kk => ?_)
     rw [selvedgeref01_Less.j1, if_neg (by decide)]
     congr 1
     exact decide_eq_false (by omega)
    exact Evk.step hj (fun kk => by rw [selvedgeref01_Less.l0, if_pos (by omega), decide_eq_false (show ¬ (i : Int) < (b.size : Int) by omega)])
theorem less_ev (a b : ByteArray) (ha : a.size ≤ 140737488351232) (hb : b.size ≤ 140737488351232) : Evk (fun kk => selvedgeref01_Less.f kk a b) (Op.bytesLess a.data.toList b.data.toList) := less_l a b ha hb a.size 0 (by omega) (by omega)
theorem less_tri : ∀ x y : List UInt8, (!Op.bytesLess x y && !x == y) = Op.bytesLess y x
 | [], [] => rfl
 | [], y :: ys => rfl
 | x :: xs, [] => rfl
 | x :: xs, y :: ys => by
  have ih := less_tri xs ys
  rw [Op.bytesLess, Op.bytesLess]
  by_cases hxy : x = y
  ·
   subst hxy
   have hn : ¬ x < x := UInt8.lt_irrefl x
   rw [decide_eq_false hn, Bool.false_or, Bool.false_or, beq_self_eq_true, Bool.true_and, Bool.true_and, ← ih]
   congr 2
   by_cases he : xs = ys
   ·
    subst he
    rw [beq_self_eq_true, beq_self_eq_true]
   ·
    rw [beq_eq_false_iff_ne.2 he, beq_eq_false_iff_ne.2 (fun h => he (List.cons.inj h).2)]
  ·
   have hne : (x :: xs == y :: ys) = false := beq_eq_false_iff_ne.2 (fun h => hxy (List.cons.inj h).1)
   rw [hne, beq_eq_false_iff_ne.2 hxy, beq_eq_false_iff_ne.2 (fun h => hxy h.symm), Bool.false_and, Bool.false_and, Bool.or_false, Bool.or_false, Bool.not_false, Bool.and_true]
   by_cases hlt : x < y
   ·
    have h1 := UInt8.lt_iff_toNat_lt.1 hlt
    have h2 : ¬ y < x := fun h => by have := UInt8.lt_iff_toNat_lt.1 h; omega
    rw [decide_eq_true hlt, decide_eq_false h2]; rfl
   ·
    have h1 : ¬ x.toNat < y.toNat := fun h => hlt (UInt8.lt_iff_toNat_lt.2 h)
    have h3 : x.toNat ≠ y.toNat := fun h => hxy (UInt8.toNat_inj.1 h)
    have h2 : y < x := UInt8.lt_iff_toNat_lt.2 (by omega)
    rw [decide_eq_false hlt, decide_eq_true h2]; rfl
theorem strGt_eq (x s : ByteArray) : Si.strGt x s = Op.bytesLess s.data.toList x.data.toList := by
 unfold Si.strGt
 have e : ∀ y : ByteArray, y.toList = y.data.toList := fun y => ByteArray.toList_eq y
 rw [e, e]
 exact less_tri _ _
theorem put_l (l : List ByteArray) (hl : l.length ≤ 1099511627776) (s : ByteArray) (hs : s.size ≤ 140737488351232) (hsz : ∀ x ∈ l, x.size ≤ 140737488351232) : ∀ (n i : Nat), i + n = l.length → Evk (fun kk => selvedgeref14_put.l0 kk l s (i : Int)) (l.take i ++ Si.insAt (fun x => Si.strGt x s) s (l.drop i))
 | 0, i, h => by
  have hi : i = l.length := by omega
  subst hi
  refine Evk.step (Evk.ret _) (fun kk => ?_)
  rw [List.drop_length, show Si.insAt (fun x => Si.strGt x s) s [] = [s] from rfl]
  rw [selvedgeref14_put.l0, if_neg (by omega)]
  simp only [Option.bind_some, Int.toNat_natCast, List.nil_append]
  rw [if_pos (by omega), if_pos (by omega), if_pos (by rw [List.length_take]; simp; omega), if_pos (by rw [List.length_take]; omega), List.drop_length, List.append_nil, if_pos (by rw [List.length_append, List.length_take]; simp; omega)]
 | n + 1, i, h => by
  have hi : i < l.length := by omega
  have e := rdOf_eq l i hi
  have hlv := less_ev s (l[i]) hs (hsz _ (List.getElem_mem hi))
  rw [← strGt_eq] at hlv
  have h1 : ((i : Int) < (l.length : Int)) = True := eq_true (by omega)
  have h2 : (0 ≤ (i : Int)) = True := eq_true (by omega)
  have h3 : ((i : Int) ≤ (l.length : Int)) = True := eq_true (by omega)
  rw [List.drop_eq_getElem_cons hi, Si.insAt_cons]
  cases hq : Si.strGt (l[i]) s with
  | true =>
   rw [hq] at hlv
   rw [if_pos rfl]
   refine evk_succ ?_
   simp only [selvedgeref14_put.l0, h1, h2, h3, if_true, e, Option.bind_some, Int.toNat_natCast, List.nil_append]
   refine Evk.bind hlv ?_
   refine Evk.of_eq (Evk.ret _) (fun kk => ?_)
   rw [if_pos rfl, if_pos (by rw [List.length_take]; simp; omega), if_pos (by rw [List.length_take]; omega), if_pos (by rw [List.length_append, List.length_take, List.length_drop]; simp; omega), List.append_assoc, List.drop_eq_getElem_cons hi]
   rfl
  | false =>
   rw [hq] at hlv
   rw [if_neg (by decide)]
   have ih := put_l l hl s hs hsz n (i + 1) (by omega)
   rw [List.take_add_one, List.getElem?_eq_getElem hi, List.append_assoc] at ih
   refine evk_succ ?_
   simp only [selvedgeref14_put.l0, h1, h2, h3, if_true, e, ws i (show i ≤ 4611686018427387000 by omega)]
   refine Evk.bind hlv ?_
   exact Evk.of_eq ih (fun kk => if_neg (by decide))
theorem put_ev (l : List ByteArray) (hl : l.length ≤ 1099511627776) (s : ByteArray) (hs : s.size ≤ 140737488351232) (hsz : ∀ x ∈ l, x.size ≤ 140737488351232) : Evk (fun kk => selvedgeref14_put.f kk l s) (Si.insAt (fun x => Si.strGt x s) s l) := by
 have h := put_l l hl s hs hsz l.length 0 (by omega)
 rw [List.take_zero, List.drop_zero, List.nil_append] at h
 exact h
theorem withS_sz (l : List ByteArray) (s : ByteArray) (hs : s.size ≤ 140737488351232) (hsz : ∀ x ∈ l, x.size ≤ 140737488351232) : ∀ x ∈ Si.withS l s, x.size ≤ 140737488351232 := by
 intro x hx
 unfold Si.withS at hx
 split at hx
 ·
  exact hsz x hx
 ·
  rcases (Si.mem_insAt _ _ _ _).1 hx with h | h
  ·
   rw [h]; exact hs
  ·
   exact hsz x h
theorem rbehind_l (done : List ByteArray) (hd : done.length ≤ 1048576) (p : List SE) (hp : p.length ≤ 1048576) (hpz : ∀ x ∈ p, x.f0.size ≤ 140737488351232) : ∀ (n i : Nat) (acc : List SE) (dn : List ByteArray), i + n = p.length → acc.length ≤ i → dn.length ≤ 1048576 + i → (∀ x ∈ dn, x.size ≤ 140737488351232) → Evk (fun k => selvedgeref14_Behind.l0 k done p acc dn (i : Int)) (acc ++ newL done (p.drop i), ((newL done (p.drop i)).map (fun x => x.f0)).foldl Si.withS dn)
 | 0, i, acc, dn, h, ha, hn, hz => by
  rw [List.drop_eq_nil_of_le (by omega)]
  exact Evk.step (Evk.ret _) (fun k => by rw [selvedgeref14_Behind.l0, if_neg (by omega), show newL done [] = [] from rfl, List.append_nil]; rfl)
 | n + 1, i, acc, dn, h, ha, hn, hz => by
  have hi : i < p.length := by omega
  have e := rdE_eq p i hi
  have h1 : ((i : Int) < (p.length : Int)) = True := eq_true (by omega)
  have h2 : (0 ≤ (i : Int)) = True := eq_true (by omega)
  have h3 : (acc.length < 1466015503701) = True := eq_true (by omega)
  refine evk_succ ?_
  simp only [selvedgeref14_Behind.l0, h1, h2, h3, if_true, e, ws i (show i ≤ 4611686018427387000 by omega), Option.bind_some]
  refine Evk.bind (has_ev done (by omega) _) ?_
  rw [List.drop_eq_getElem_cons hi]
  unfold newL
  rw [List.filter_cons]
  cases hc : done.contains (p[i]).f0 with
  | true =>
   rw [if_neg (by decide)]
   exact Evk.of_eq (rbehind_l done hd p hp hpz n (i + 1) acc dn (by omega) (by omega) (by omega) hz) (fun k => if_pos rfl)
  | false =>
   rw [if_pos (by decide)]
   refine Evk.of_eq ?_ (fun k => if_neg (by decide))
   refine Evk.bind (has_ev dn (by omega) _) ?_
   have hw := withS_le dn (p[i]).f0
   have ih := rbehind_l done hd p hp hpz n (i + 1) (acc ++ [p[i]]) (Si.withS dn (p[i]).f0) (by omega) (by rw [List.length_append]; simp; omega) (by omega) (withS_sz dn _ (hpz _ (List.getElem_mem hi)) hz)
   rw [List.append_assoc] at ih
   cases hcd : dn.contains (p[i]).f0 with
   | true =>
    have ew : Si.withS dn (p[i]).f0 = dn := by unfold Si.withS; rw [hcd, if_pos rfl]
    refine Evk.of_eq (g := fun k => selvedgeref14_Behind.l0 k done p (acc ++ [p[i]]) dn ((i + 1 : Nat) : Int)) ?_ (fun k => if_pos rfl)
    rw [ew] at ih
    rw [List.map_cons, List.foldl_cons, ew]
    exact ih
   | false =>
    have ew : Si.withS dn (p[i]).f0 = Si.insAt (fun x => Si.strGt x (p[i]).f0) (p[i]).f0 dn := by unfold Si.withS; rw [hcd, if_neg (by decide)]
    refine Evk.of_eq ?_ (fun k => if_neg (by decide))
    rw [List.map_cons, List.foldl_cons, ew]
    rw [ew] at ih
    exact Evk.bind (put_ev dn (by omega) _ (hpz _ (List.getElem_mem hi)) hz) ih
theorem rbehind_ev (l : List SE) (h1 : l.length ≤ 1048576) (hz : ∀ x ∈ l, x.f0.size ≤ 140737488351232) (hps : ∀ x ∈ l, x.f1.f3.length ≤ 1048576) (hb : ∀ x ∈ l, 0 ≤ x.f1.f1 ∧ x.f1.f1 ≤ 60) (hdd : l.Pairwise (fun x y => x.f0.toList ≠ y.f0.toList)) (a b : Int) (x0 : ByteArray) (x1 x2 : Int) (x3 : List S129) (x4 : List ByteArray) (x5 x6 : Int) (done : List ByteArray) (hd : done.length ≤ 1048576) (hdz : ∀ x ∈ done, x.size ≤ 140737488351232) :
  Evk (fun k => selvedgeref14_Behind.f k a b l x0 x1 x2 x3 x4 x5 x6 done) (newL done (pastL l x0 (wrap64 (x2 - 12))), ((newL done (pastL l x0 (wrap64 (x2 - 12)))).map (fun x => x.f0)).foldl Si.withS done) := by
 unfold selvedgeref14_Behind.f
 refine Evk.bind (rpast_ev l h1 hb hdd hps a b x0 (wrap64 (x2 - 12))) ?_
 have hs := pastL_sub l x0 (wrap64 (x2 - 12))
 have hp := hs.length_le
 have h := rbehind_l done hd (pastL l x0 (wrap64 (x2 - 12))) (by omega) (fun x hx => hz x (hs.subset hx)) (pastL l x0 (wrap64 (x2 - 12))).length 0 [] done (by omega) (by simp) (by omega) hdz
 rw [List.drop_zero, List.nil_append] at h
 exact h
theorem rd129_eq (l : List S129) (i : Nat) (h : i < l.length) : rd_T129 l (i : Int) = l[i] := by
 unfold rd_T129
 rw [Int.toNat_natCast, List.getD_eq_getElem?_getD, List.getElem?_eq_getElem h]; rfl
theorem same1_l (l : List ByteArray) (hl : l.length ≤ 8796093022208) : ∀ (n i : Nat), i + n = l.length → Evk (fun k => selvedgeref01_Same.l0 k l l (i : Int)) true
 | 0, i, h => Evk.step (Evk.ret true) (fun k => by rw [selvedgeref01_Same.l0, if_neg (by omega)])
 | n + 1, i, h => Evk.step (same1_l l hl n (i + 1) (by omega)) (fun k => by rw [selvedgeref01_Same.l0, if_pos (by omega), if_pos (by omega), if_pos (by omega), if_pos rfl, ws i (by omega)])
theorem same1_ev (l : List ByteArray) (hl : l.length ≤ 8796093022208) : Evk (fun k => selvedgeref01_Same.f k l l) true := Evk.of_eq (same1_l l hl l.length 0 (by omega)) (fun k => by rw [selvedgeref01_Same.f, if_pos rfl]; rfl)
theorem same7_ev (a b : Int) (l : List ByteArray) (hl : l.length ≤ 8796093022208) : Evk (fun k => selvedgeref07_Same.f k a b l a b l) true := by
 unfold selvedgeref07_Same.f
 refine Evk.bind (same1_ev l hl) ?_
 exact Evk.of_eq (Evk.ret true) (fun k => by rw [if_pos rfl, if_pos rfl, beq_self_eq_true])
theorem sameAll_l (l : List S129) (hl : l.length ≤ 8796093022208) (h2 : ∀ x ∈ l, x.f2.length ≤ 8796093022208) : ∀ (n i : Nat), i + n = l.length → Evk (fun k => selvedgeref07_SameAll.l0 k l l (i : Int)) true
 | 0, i, h => Evk.step (Evk.ret true) (fun k => by rw [selvedgeref07_SameAll.l0, if_neg (by omega)])
 | n + 1, i, h => by
  have hi : i < l.length := by omega
  have e := rd129_eq l i hi
  have h1 : ((i : Int) < (l.length : Int)) = True := eq_true (by omega)
  have h3 : (0 ≤ (i : Int)) = True := eq_true (by omega)
  refine evk_succ ?_
  simp only [selvedgeref07_SameAll.l0, h1, h3, if_true, e, ws i (show i ≤ 4611686018427387000 by omega)]
  refine Evk.bind (same7_ev _ _ _ (h2 _ (List.getElem_mem hi))) ?_
  exact Evk.of_eq (sameAll_l l hl h2 n (i + 1) (by omega)) (fun k => if_pos rfl)
theorem sameAll_ev (l : List S129) (hl : l.length ≤ 8796093022208) (h2 : ∀ x ∈ l, x.f2.length ≤ 8796093022208) : Evk (fun k => selvedgeref07_SameAll.f k l l) true := Evk.of_eq (sameAll_l l hl h2 l.length 0 (by omega)) (fun k => by rw [selvedgeref07_SameAll.f, if_pos rfl]; rfl)
theorem same8_ev (a b : Int) (l : List S129) (ps : List ByteArray) (c d : Int) (hl : l.length ≤ 8796093022208) (h2 : ∀ x ∈ l, x.f2.length ≤ 8796093022208) (hp : ps.length ≤ 8796093022208) : Evk (fun k => selvedgeref08_Same.f k a b l ps c d a b l ps c d) true := by
 unfold selvedgeref08_Same.f
 refine Evk.bind (same1_ev ps hp) ?_
 refine Evk.bind (sameAll_ev l hl h2) ?_
 exact Evk.of_eq (Evk.ret true) (fun k => by rw [if_pos rfl, if_pos rfl, if_pos rfl, if_pos rfl, beq_self_eq_true, beq_self_eq_true]; rfl)
def Fine (x : SE) : Prop := x.f1.f2.length ≤ 8796093022208 ∧ (∀ y ∈ x.f1.f2, y.f2.length ≤ 8796093022208) ∧ x.f1.f3.length ≤ 8796093022208
theorem entries_l (l : List SE) (hl : l.length ≤ 8796093022208) (h2 : ∀ x ∈ l, Fine x) : ∀ (n i : Nat), i + n = l.length → Evk (fun k => selvedgeref11_Entries.l0 k l l (i : Int)) true
 | 0, i, h => Evk.step (Evk.ret true) (fun k => by rw [selvedgeref11_Entries.l0, if_neg (by omega)])
 | n + 1, i, h => by
  have hi : i < l.length := by omega
  have e := rdE_eq l i hi
  have h1 : ((i : Int) < (l.length : Int)) = True := eq_true (by omega)
  have h3 : (0 ≤ (i : Int)) = True := eq_true (by omega)
  obtain ⟨f1, f2, f3⟩ := h2 _ (List.getElem_mem hi)
  refine evk_succ ?_
  simp only [selvedgeref11_Entries.l0, h1, h3, if_true, e, ws i (show i ≤ 4611686018427387000 by omega)]
  refine Evk.bind (same8_ev _ _ _ _ _ _ f1 f2 f3) ?_
  exact Evk.of_eq (entries_l l hl h2 n (i + 1) (by omega)) (fun k => if_pos rfl)
theorem entries_ev (l : List SE) (hl : l.length ≤ 8796093022208) (h2 : ∀ x ∈ l, Fine x) : Evk (fun k => selvedgeref11_Entries.f k l l) true := Evk.of_eq (entries_l l hl h2 l.length 0 (by omega)) (fun k => by rw [selvedgeref11_Entries.f, if_pos rfl]; rfl)
theorem ents_ps : ∀ (l : List SE), ∀ x ∈ l, x.f1.f3.length ≤ (l.map B37).sum
 | a :: r, x, hx => by
  have h3 := strs_sum a.f1.f3
  have e : B37 a = a.f0.size + 1 + B35 a.f1 + 1 := rfl
  have e' : B35 a.f1 = 1 + 1 + ((a.f1.f2.map B129).sum + 1) + ((a.f1.f3.map (fun s : ByteArray => s.size + 1)).sum + 1) + B33 a.f1.f4 + 1 := rfl
  simp only [List.map_cons, List.sum_cons]
  rcases List.mem_cons.1 hx with rfl | hx
  ·
   omega
  ·
   have := ents_ps r x hx; omega
theorem fine_of (x : SE) (h : G37 x) : Fine x := ⟨by have := h.2.2.2.1.1; omega, fun y hy => by have := (h.2.2.2.1.2 y hy).2.2.1; omega, by have := h.2.2.2.2.1.1; omega⟩
theorem foldS_len : ∀ (l dn : List ByteArray), (l.foldl Si.withS dn).length ≤ dn.length + l.length
 | [], dn => Nat.le_refl _
 | a :: r, dn => by
  have h1 := withS_le dn a
  have h2 := foldS_len r (Si.withS dn a)
  simp only [List.foldl_cons, List.length_cons]; omega
theorem OrderBehind : selvedgelaw14_OrderBehind.Pure := by
 intro x0 x1 l2 hg0 hg1 hg2 hsum
 have e0 : B24 x0 = 1 + 1 + ((x0.f2.map B37).sum + 1) + 1 := rfl
 have hs2 := strs_sum l2
 dsimp only at hsum
 have h2 : (x0.f2.map B37).sum ≤ 1048576 := by omega
 have h1 : x0.f2.length ≤ 1048576 := Nat.le_trans (ents_sum x0.f2).1 h2
 have hd : l2.length ≤ 1048576 := by omega
 have hg : ∀ x ∈ x0.f2, G37 x := hg0.2.2.2
 obtain ⟨b, hb, hsm⟩ := small_ev x0.f2 h1 x0.f0 x0.f1
 refine Evk.get (f := fun k => selvedgelaw14_OrderBehind.f k x0.f0 x0.f1 x0.f2 x1.f0 x1.f1.f0 x1.f1.f1 x1.f1.f2 x1.f1.f3 x1.f1.f4.f0 x1.f1.f4.f1 l2) ?_
 refine Evk.bind shown_ev ?_
 refine Evk.bind hb ?_
 refine Evk.of_eq ?_ (fun k => if_pos rfl)
 have ht : Evk (fun k => selvedgelaw14_OrderBehind.j0 k l2 true true x0.f0 x0.f1 x0.f2 x1.f0 x1.f1.f0 x1.f1.f1 x1.f1.f2 x1.f1.f3 x1.f1.f4.f0 x1.f1.f4.f1) true := Evk.step (Evk.ret true) (fun k => by rw [selvedgelaw14_OrderBehind.j0, if_pos rfl])
 cases b with
 | false => exact Evk.of_eq ht (fun k => if_neg (by decide))
 | true =>
  obtain ⟨s1, s2, s3⟩ := hsm rfl
  refine Evk.of_eq ?_ (fun k => if_pos rfl)
  by_cases h0 : x1.f1.f1 < 0
  ·
   exact Evk.of_eq ht (fun k => if_pos h0)
  ·
   refine Evk.of_eq ?_ (fun k => if_neg h0)
   by_cases h9 : x1.f1.f1 > 1000000
   ·
    rw [decide_eq_true h9]; exact ht
   ·
    rw [decide_eq_false h9]
    refine evk_succ ?_
    simp only [selvedgelaw14_OrderBehind.j0, Bool.false_eq_true, if_false]
    refine Evk.bind (behind_ev x0.f2 h1 h2 hg s2 x0.f0 x0.f1 x1.f0 x1.f1.f0 x1.f1.f1 x1.f1.f2 x1.f1.f3 x1.f1.f4.f0 x1.f1.f4.f1 l2 hd) ?_
    refine Evk.bind (rbehind_ev x0.f2 h1 (fun x hx => (hg x hx).1) (fun x hx => by have := ents_ps x0.f2 x hx; omega) s2 s3 x0.f0 x0.f1 x1.f0 x1.f1.f0 x1.f1.f1 x1.f1.f2 x1.f1.f3 x1.f1.f4.f0 x1.f1.f4.f1 l2 hd hg2.2) ?_
    have hsub := pastL_sub x0.f2 x1.f0 (wrap64 (x1.f1.f1 - 12))
    have hp := hsub.length_le
    have hlen : (newL l2 (pastL x0.f2 x1.f0 (wrap64 (x1.f1.f1 - 12)))).length ≤ 1048576 := by
     have := List.length_filter_le (fun x : SE => !l2.contains x.f0) (pastL x0.f2 x1.f0 (wrap64 (x1.f1.f1 - 12)))
     unfold newL; omega
    refine Evk.bind (entries_ev _ (by dsimp only; omega) (fun x hx => fine_of x (hg x (hsub.subset (List.mem_filter.1 hx).1)))) ?_
    refine Evk.of_eq ?_ (fun k => if_pos rfl)
    have hfl := foldS_len ((newL l2 (pastL x0.f2 x1.f0 (wrap64 (x1.f1.f1 - 12)))).map (fun x => x.f0)) l2
    rw [List.length_map] at hfl
    exact Evk.bind (same1_ev _ (by dsimp only; omega)) (Evk.ret true)
end Go.Proofs.Ytcbfnmabckjijaa.Pure
