import Derived.Test.YtcbfnmabckjijaaArgOrderTurns
import Derived.Test.YtcbfnmabckjijaaVOrderTurnsEk
import Derived.Test.YtcbfnmabckjijaaVOrderTurnsRl
namespace Go.Proofs.Ytcbfnmabckjijaa.Pure
open Go.RowKit Go.Proofs.Ytcbfnmabckjijaa.POrderTurns Go.Proofs.YtcbfnmabckjijaaW.PrintWords Go.Proofs.YtcbfnmabckjijaaW.PrintLast
open Go.Proofs.Ytcbfnmabckjijaa.Ek
set_option linter.unusedVariables false
set_option linter.unusedSimpArgs false

set_option maxRecDepth 100000 in
theorem shown_true : selvedgelaw14_shown.f 400 = some true := by decide +kernel
theorem shown_ev : Evk (fun k => selvedgelaw14_shown.f k) true := Evk.of_mono (fun k r h => selvedgelaw14_shown.mono k r h) shown_true
theorem evk_succ {α : Type} {f : Nat → Option α} {v : α} (h : Evk (fun k => f (k + 1)) v) : Evk f v := by
 obtain ⟨k0, h0⟩ := h
 refine ⟨k0 + 1, fun k hk => ?_⟩
 obtain ⟨k', rfl⟩ : ∃ k', k = k' + 1 := ⟨k - 1, by omega⟩
 exact h0 k' (by omega)
theorem w64 (x : Int) (h : -4611686018427387904 ≤ x) (h' : x ≤ 4611686018427387904) : wrap64 x = x := Go.IntWalk.wrap64_in x (by omega)
theorem ws (i : Nat) (h : i ≤ 4611686018427387000) : wrap64 ((i : Int) + 1) = ((i + 1 : Nat) : Int) := by rw [w64 _ (by omega) (by omega)]; rfl
theorem rdOf_eq (l : List ByteArray) (i : Nat) (h : i < l.length) : rdOf ByteArray.empty l (i : Int) = l[i] := by
 unfold rdOf
 rw [Int.toNat_natCast, List.getD_eq_getElem?_getD, List.getElem?_eq_getElem h]; rfl
theorem ba_beq (a b : ByteArray) : (a == b) = decide (a.toList = b.toList) := by
 by_cases h : a.toList = b.toList
 ·
  have e := Si.ba_ext h
  subst e
  rw [decide_eq_true h]
  exact beq_self_eq_true a
 ·
  rw [decide_eq_false h]
  exact beq_eq_false_iff_ne.2 (fun e => h (by rw [e]))
theorem index_l (l : List ByteArray) (hl : l.length ≤ 1099511627776) (s : ByteArray) : ∀ (n i : Nat), i + n = l.length → ∃ r : Int, Evk (fun k => slices_Index_string_string.l0 k l s (l.length : Int) (i : Int)) r ∧ decide (r ≥ 0) = (l.drop i).contains s
 | 0, i, h => ⟨-1, Evk.step (Evk.ret (-1)) (fun k => by rw [slices_Index_string_string.l0, if_neg (by omega)]), by rw [List.drop_eq_nil_of_le (by omega)]; rfl⟩
 | n + 1, i, h => by
  have hi : i < l.length := by omega
  have e := rdOf_eq l i hi
  rw [List.drop_eq_getElem_cons hi, List.contains_cons, ba_beq]
  by_cases hq : s.toList = (l[i]).toList
  ·
   refine ⟨(i : Int), Evk.step (Evk.ret (i : Int)) (fun k => by rw [slices_Index_string_string.l0, if_pos (by omega), if_pos (by omega), if_pos (by omega), e, if_pos hq]), ?_⟩
   rw [decide_eq_true hq, Bool.true_or]
   exact decide_eq_true (by omega)
  ·
   obtain ⟨r, h1, h2⟩ := index_l l hl s n (i + 1) (by omega)
   refine ⟨r, Evk.step h1 (fun k => by rw [slices_Index_string_string.l0, if_pos (by omega), if_pos (by omega), if_pos (by omega), e, if_neg hq, ws i (by omega)]), ?_⟩
   rw [decide_eq_false hq, Bool.false_or]
   exact h2
theorem contains_ev (l : List ByteArray) (hl : l.length ≤ 1099511627776) (s : ByteArray) : Evk (fun k => slices_Contains_string_string.f k l s) (l.contains s) := by
 obtain ⟨r, h1, h2⟩ := index_l l hl s l.length 0 (by omega)
 rw [List.drop_zero] at h2
 refine Evk.bind (f := fun k => slices_Index_string_string.f k l s) (g := fun _ t => some (decide (t ≥ 0))) h1 ?_
 rw [h2]
 exact Evk.ret _
theorem with_ev (l : List ByteArray) (hl : l.length ≤ 1099511627776) (s : ByteArray) : Evk (fun k => order_with.f k l s) (Si.withS l s) := by
 refine Evk.of_eq ?_ (fun k => by rw [order_with.f, if_pos (by omega)])
 refine Evk.bind (contains_ev l hl s) ?_
 exact Evk.of_eq (Evk.ret _) (fun k => if_pos rfl)
theorem has_l (l : List ByteArray) (hl : l.length ≤ 1099511627776) (s : ByteArray) : ∀ (n i : Nat), i + n = l.length → Evk (fun k => selvedgeref14_Has.l0 k l s (i : Int)) ((l.drop i).contains s)
 | 0, i, h => by
  rw [List.drop_eq_nil_of_le (by omega)]
  exact Evk.step (Evk.ret false) (fun k => by rw [selvedgeref14_Has.l0, if_neg (by omega)])
 | n + 1, i, h => by
  have hi : i < l.length := by omega
  have e := rdOf_eq l i hi
  rw [List.drop_eq_getElem_cons hi, List.contains_cons, ba_beq]
  by_cases hq : s.toList = (l[i]).toList
  ·
   rw [decide_eq_true hq, Bool.true_or]
   exact Evk.step (Evk.ret true) (fun k => by rw [selvedgeref14_Has.l0, if_pos (by omega), if_pos (by omega), e, if_pos hq.symm])
  ·
   rw [decide_eq_false hq, Bool.false_or]
   exact Evk.step (has_l l hl s n (i + 1) (by omega)) (fun k => by rw [selvedgeref14_Has.l0, if_pos (by omega), if_pos (by omega), e, if_neg (fun h => hq h.symm), ws i (by omega)])
theorem has_ev (l : List ByteArray) (hl : l.length ≤ 1099511627776) (s : ByteArray) : Evk (fun k => selvedgeref14_Has.f k l s) (l.contains s) := by
 have h := has_l l hl s l.length 0 (by omega)
 rw [List.drop_zero] at h
 exact h
def Small (l : List SE) : Prop := l.length ≤ 60 ∧ (∀ x ∈ l, 0 ≤ x.f1.f1 ∧ x.f1.f1 ≤ 60) ∧ l.Pairwise (fun x y => x.f0.toList ≠ y.f0.toList)
theorem small_in (l : List SE) (hl : l.length ≤ 1048576) (a b : Int) (i : Nat) (hi : i < l.length) (c : Bool) (hn : Evk (fun k => selvedgelaw14_small.l0 k ((i + 1 : Nat) : Int) a b l) c) : ∀ (n j : Nat), j + n = i → ∃ r : Bool, Evk (fun k => selvedgelaw14_small.l1 k (i : Int) (j : Int) a b l) r ∧ (r = true → c = true ∧ ∀ (m : Nat) (hm : m < i), j ≤ m → (l[i]).f0.toList ≠ (l[m]'(by omega)).f0.toList)
 | 0, j, h => ⟨c, Evk.step hn (fun k => by rw [selvedgelaw14_small.l1, if_neg (by omega), ws i (by omega)]), fun hc => ⟨hc, fun m hm hj => by omega⟩⟩
 | n + 1, j, h => by
  have e := rdE_eq l i hi
  have hj : j < l.length := by omega
  have e' := rdE_eq l j hj
  by_cases hq : (l[i]).f0.toList = (l[j]).f0.toList
  ·
   refine ⟨false, Evk.step (Evk.ret false) (fun k => ?_), fun hc => by cases hc⟩
   rw [selvedgelaw14_small.l1, if_pos (by omega), if_pos (by omega), if_pos (by omega), if_pos (by omega), if_pos (by omega), e, e', if_pos hq]
  ·
   obtain ⟨r, h1, h2⟩ := small_in l hl a b i hi c hn n (j + 1) (by omega)
   refine ⟨r, Evk.step h1 (fun k => ?_), fun hc => ⟨(h2 hc).1, fun m hm hjm => ?_⟩⟩
   ·
    rw [selvedgelaw14_small.l1, if_pos (by omega), if_pos (by omega), if_pos (by omega), if_pos (by omega), if_pos (by omega), e, e', if_neg hq, ws j (by omega)]
   ·
    by_cases hmj : m = j
    ·
     subst hmj; exact hq
    ·
     exact (h2 hc).2 m hm (by omega)
theorem small_out (l : List SE) (hl : l.length ≤ 1048576) (a b : Int) : ∀ (n i : Nat), i + n = l.length → ∃ r : Bool, Evk (fun k => selvedgelaw14_small.l0 k (i : Int) a b l) r ∧ (r = true → l.length ≤ 60 ∧ ∀ (p : Nat) (hp : p < l.length), i ≤ p → (0 ≤ (l[p]).f1.f1 ∧ (l[p]).f1.f1 ≤ 60) ∧ ∀ (m : Nat) (hm : m < p), (l[p]).f0.toList ≠ (l[m]'(by omega)).f0.toList)
 | 0, i, h => ⟨decide ((l.length : Int) ≤ 60), Evk.step (Evk.ret _) (fun k => by rw [selvedgelaw14_small.l0, if_neg (by omega)]), fun hc => ⟨by have := of_decide_eq_true hc; omega, fun p hp hi => by omega⟩⟩
 | n + 1, i, h => by
  have hi : i < l.length := by omega
  have e := rdE_eq l i hi
  have jt : Evk (fun k => selvedgelaw14_small.j1 k (i : Int) true a b l) false := Evk.step (Evk.ret false) (fun k => by rw [selvedgelaw14_small.j1, if_pos rfl])
  by_cases h1 : (l[i]).f1.f1 > 60
  ·
   exact ⟨false, Evk.step jt (fun k => by rw [selvedgelaw14_small.l0, if_pos (by omega), if_pos (by omega), e, if_pos h1]), fun hc => by cases hc⟩
  ·
   by_cases h2 : (l[i]).f1.f1 < 0
   ·
    exact ⟨false, Evk.step jt (fun k => by rw [selvedgelaw14_small.l0, if_pos (by omega), if_pos (by omega), e, if_neg h1, decide_eq_true h2]), fun hc => by cases hc⟩
   ·
    obtain ⟨c, hc1, hc2⟩ := small_out l hl a b n (i + 1) (by omega)
    obtain ⟨r, hr1, hr2⟩ := small_in l hl a b i hi c hc1 i 0 (by omega)
    have jf : Evk (fun k => selvedgelaw14_small.j1 k (i : Int) false a b l) r := Evk.step hr1 (fun k => by rw [selvedgelaw14_small.j1, if_neg (by decide)]; rfl)
    refine ⟨r, Evk.step jf (fun k => by rw [selvedgelaw14_small.l0, if_pos (by omega), if_pos (by omega), e, if_neg h1, decide_eq_false h2]), fun hr => ?_⟩
    obtain ⟨hcc, hd⟩ := hr2 hr
    obtain ⟨g1, g2⟩ := hc2 hcc
    refine ⟨g1, fun p hp hip => ?_⟩
    by_cases hpi : p = i
    ·
     subst hpi
     exact ⟨⟨by omega, by omega⟩, fun m hm => hd m hm (by omega)⟩
    ·
     exact g2 p hp (by omega)
theorem small_ev (l : List SE) (hl : l.length ≤ 1048576) (a b : Int) : ∃ r : Bool, Evk (fun k => selvedgelaw14_small.f k a b l) r ∧ (r = true → Small l) := by
 obtain ⟨r, h1, h2⟩ := small_out l hl a b l.length 0 (by omega)
 refine ⟨r, h1, fun hr => ?_⟩
 obtain ⟨g1, g2⟩ := h2 hr
 refine ⟨g1, fun x hx => ?_, List.pairwise_iff_getElem.2 (fun i j hi hj hij => fun e => (g2 j hj (by omega)).2 i hij e.symm)⟩
 obtain ⟨p, hp, rfl⟩ := List.mem_iff_getElem.1 hx
 exact (g2 p hp (by omega)).1
theorem strs_sum : ∀ l : List ByteArray, l.length ≤ (l.map (fun s : ByteArray => s.size + 1)).sum
 | [] => Nat.le_refl _
 | a :: r => by
  have := strs_sum r
  simp only [List.map_cons, List.sum_cons, List.length_cons]; omega
theorem ents_sum : ∀ l : List SE, l.length ≤ (l.map B37).sum ∧ ((l.map toDX).map (fun x => x.ps.length)).sum ≤ (l.map B37).sum
 | [] => ⟨Nat.le_refl _, Nat.le_refl _⟩
 | a :: r => by
  obtain ⟨h1, h2⟩ := ents_sum r
  have h3 := strs_sum a.f1.f3
  have e : B37 a = a.f0.size + 1 + B35 a.f1 + 1 := rfl
  have e' : B35 a.f1 = 1 + 1 + ((a.f1.f2.map B129).sum + 1) + ((a.f1.f3.map (fun s : ByteArray => s.size + 1)).sum + 1) + B33 a.f1.f4 + 1 := rfl
  have e3 : (toDX a).ps = a.f1.f3 := rfl
  simp only [List.map_cons, List.sum_cons, List.length_cons, e3]
  exact ⟨by omega, by omega⟩
theorem okX_of (l : List SE) (h1 : l.length ≤ 1048576) (h2 : (l.map B37).sum ≤ 1048576) (hg : ∀ x ∈ l, G37 x) : Si.okX (l.map toDX) = true := by
 refine (Si.okX_iff _).2 ⟨by rw [List.length_map]; omega, fun x hx => ?_, by have := (ents_sum l).2; omega⟩
 obtain ⟨y, hy, rfl⟩ := List.mem_map.1 hx
 obtain ⟨g0, g1⟩ := hg y hy
 exact ⟨g0, g1.2.2.2.1.2, g1.2.1⟩
theorem down_ok (l : List SE) (hb : ∀ x ∈ l, 0 ≤ x.f1.f1 ∧ x.f1.f1 ≤ 60) : ∀ (m : Nat) (r : Int), -1 ≤ r → r + 2 ≤ m → m ≤ 100 → ∃ q, Si.downO (Si.roundX (l.map toDX)) m r = some q
 | 0, r, h, h', _ => by omega
 | m + 1, r, h, h', h3 => by
  by_cases hz : (Si.roundX (l.map toDX) r).length = 0
  ·
   exact ⟨[], by rw [Si.downO, if_pos hz]⟩
  ·
   have hr : 0 ≤ r := by
    rw [filter_map_dx, List.length_map] at hz
    obtain ⟨x, hx⟩ := List.exists_mem_of_length_pos (Nat.pos_of_ne_zero hz)
    have hm := List.mem_filter.1 hx
    have := (hb x hm.1).1
    have e : x.f1.f1 = r := by simpa using hm.2
    omega
   obtain ⟨q, hq⟩ := down_ok l hb m (r - 1) (by omega) (by omega) (by omega)
   exact ⟨r :: q, by rw [Si.downO, if_neg hz, w64 (r - 1) (by omega) (by omega), hq]; rfl⟩
def downsX (l : List SE) (r : Int) : List Int := (Si.downO (Si.roundX (l.map toDX)) 70 r).getD []
def innL (l : List SE) (t : SE) : List (ByteArray × Int) := (Si.pastS t.f0 t.f1.f1 (Si.roundX (l.map toDX)) (downsX l t.f1.f1)).1
def pastL (l : List SE) (dg : ByteArray) (lo : Int) : List SE := match l.find? (fun x => x.f0.toList == dg.toList) with
 | none => []
 | some t => l.filter (fun x => Si.selX (innL l t) lo (toDX x))
theorem past_f (l : List SE) (h1 : l.length ≤ 1048576) (h2 : (l.map B37).sum ≤ 1048576) (hg : ∀ x ∈ l, G37 x) (hb : ∀ x ∈ l, 0 ≤ x.f1.f1 ∧ x.f1.f1 ≤ 60) (a b : Int) (dg : ByteArray) (lo : Int) : dag_Past.f a b l dg lo = some (pastL l dg lo) := by
 unfold dag_Past.f
 rw [if_pos (okX_of l h1 h2 hg)]
 unfold Si.innX pastL
 rw [find_map_dx]
 cases hf : l.find? (fun x => x.f0.toList == dg.toList) with
 | none => rfl
 | some t =>
  have ht := hb t (List.mem_of_find?_eq_some hf)
  obtain ⟨q, hq⟩ := down_ok l hb 70 t.f1.f1 (by omega) (by omega) (by omega)
  have e : downsX l t.f1.f1 = q := by unfold downsX; rw [hq]; rfl
  dsimp only [Option.map]
  rw [show (toDX t).ro = t.f1.f1 from rfl, hq]
  unfold innL
  rw [e]
  rfl
theorem pastL_sub (l : List SE) (dg : ByteArray) (lo : Int) : (pastL l dg lo).Sublist l := by
 unfold pastL
 split
 ·
  exact List.nil_sublist l
 ·
  exact List.filter_sublist
def newL (done : List ByteArray) (p : List SE) : List SE := p.filter (fun x => !done.contains x.f0)
theorem withS_le (l : List ByteArray) (s : ByteArray) : (Si.withS l s).length ≤ l.length + 1 := by
 cases h : l.contains s with
 | true => unfold Si.withS; rw [h, if_pos rfl]; omega
 | false => rw [Si.withS_len l s h]; omega
theorem behind_l (done : List ByteArray) (hd : done.length ≤ 1048576) (p : List SE) (hp : p.length ≤ 1048576) : ∀ (n i : Nat) (acc : List SE) (dn : List ByteArray), i + n = p.length → acc.length ≤ i → dn.length ≤ 1048576 + i → Evk (fun k => order_Behind.l0 k dn acc done p (p.length : Int) (i : Int)) (acc ++ newL done (p.drop i), ((newL done (p.drop i)).map (fun x => x.f0)).foldl Si.withS dn)
 | 0, i, acc, dn, h, ha, hn => by
  rw [List.drop_eq_nil_of_le (by omega)]
  exact Evk.step (Evk.ret _) (fun k => by rw [order_Behind.l0, if_neg (by omega), show newL done [] = [] from rfl, List.append_nil]; rfl)
 | n + 1, i, acc, dn, h, ha, hn => by
  have hi : i < p.length := by omega
  have e := rdE_eq p i hi
  have ew := ws i (by omega)
  refine Evk.step (g := fun k => (slices_Contains_string_string.f k done (p[i]).f0).bind fun t143 => (if t143 = true then (order_Behind.l0 k dn acc done p (p.length : Int) ((i + 1 : Nat) : Int)) else ((order_with.f k dn (p[i]).f0).bind fun t147 => (order_Behind.l0 k t147 (acc ++ [p[i]]) done p (p.length : Int) ((i + 1 : Nat) : Int))))) ?_ (fun k => ?_)
  ·
   refine Evk.bind (contains_ev done (by omega) _) ?_
   rw [List.drop_eq_getElem_cons hi]
   unfold newL
   rw [List.filter_cons]
   cases hc : done.contains (p[i]).f0 with
   | true =>
    rw [if_neg (by decide)]
    exact Evk.of_eq (behind_l done hd p hp n (i + 1) acc dn (by omega) (by omega) (by omega)) (fun k => if_pos rfl)
   | false =>
    rw [if_pos (by decide)]
    refine Evk.of_eq ?_ (fun k => if_neg (by decide))
    refine Evk.bind (with_ev dn (by omega) _) ?_
    have hw := withS_le dn (p[i]).f0
    have ih := behind_l done hd p hp n (i + 1) (acc ++ [p[i]]) (Si.withS dn (p[i]).f0) (by omega) (by rw [List.length_append]; simp; omega) (by omega)
    rw [List.append_assoc] at ih
    exact ih
  ·
   show order_Behind.l0 (k + 1) dn acc done p (p.length : Int) (i : Int) = _
   rw [order_Behind.l0, if_pos (by omega), if_pos (by omega), if_pos (by omega), e, ew, if_pos (show acc.length < 1466015503701 by omega)]
theorem behind_ev (l : List SE) (h1 : l.length ≤ 1048576) (h2 : (l.map B37).sum ≤ 1048576) (hg : ∀ x ∈ l, G37 x) (hb : ∀ x ∈ l, 0 ≤ x.f1.f1 ∧ x.f1.f1 ≤ 60) (a b : Int) (x0 : ByteArray) (x1 x2 : Int) (x3 : List S129) (x4 : List ByteArray) (x5 x6 : Int) (done : List ByteArray) (hd : done.length ≤ 1048576) :
  Evk (fun k => order_Behind.f k a b l x0 x1 x2 x3 x4 x5 x6 done) (newL done (pastL l x0 (wrap64 (x2 - 12))), ((newL done (pastL l x0 (wrap64 (x2 - 12)))).map (fun x => x.f0)).foldl Si.withS done) := by
 unfold order_Behind.f
 rw [past_f l h1 h2 hg hb]
 have hp := (pastL_sub l x0 (wrap64 (x2 - 12))).length_le
 have h := behind_l done hd (pastL l x0 (wrap64 (x2 - 12))) (by omega) (pastL l x0 (wrap64 (x2 - 12))).length 0 [] done (by omega) (by simp) (by omega)
 rw [List.drop_zero, List.nil_append] at h
 exact h
def edge (x y : SE) : Prop := y.f1.f1 = x.f1.f1 - 1 ∧ ∃ p ∈ x.f1.f3, p.toList = y.f0.toList
theorem look_mem : ∀ (inn : List (ByteArray × Int)) (d : ByteArray) (v : Int), Si.look inn d = some v → (d, v) ∈ inn
 | [], _, _, h => by simp [Si.look] at h
 | (k, u) :: r, d, v, h => by
  rw [Si.look] at h
  split at h
  ·
   rename_i e; subst e; obtain rfl := Option.some.inj h; simp
  ·
   exact List.mem_cons_of_mem _ (look_mem r d v h)
theorem look_some : ∀ (inn : List (ByteArray × Int)) (d : ByteArray) (v : Int), (d, v) ∈ inn → ∃ u, Si.look inn d = some u
 | (k, u) :: r, d, v, h => by
  rw [Si.look]
  split
  ·
   exact ⟨u, rfl⟩
  ·
   rename_i e
   rcases List.mem_cons.1 h with h | h
   ·
    exact absurd (congrArg Prod.fst h).symm e
   ·
    exact look_some r d v h
theorem steps_spec (tD : ByteArray) (tR r : Int) : ∀ (xs : List Si.DX) (inn : List (ByteArray × Int)) (want next : List ByteArray), xs.Pairwise (fun x y => x.d ≠ y.d) →
  (∀ e, e ∈ (xs.foldl (Si.stepE tD tR r) (inn, want, next)).1 ↔ e ∈ inn ∨ ∃ x ∈ xs, x.d ∈ want ∧ (r = tR → x.d = tD) ∧ e = (x.d, r)) ∧
  (∀ p, p ∈ (xs.foldl (Si.stepE tD tR r) (inn, want, next)).2.2 ↔ p ∈ next ∨ ∃ x ∈ xs, x.d ∈ want ∧ (r = tR → x.d = tD) ∧ p ∈ x.ps)
 | [], inn, want, next, _ => ⟨fun e => by simp, fun p => by simp⟩
 | x :: xs, inn, want, next, h => by
  obtain ⟨h1, h2⟩ := List.pairwise_cons.1 h
  rw [List.foldl_cons]
  by_cases hc : x.d ∈ want ∧ (r = tR → x.d = tD)
  ·
   rw [Si.step_yes hc]
   obtain ⟨i1, i2⟩ := steps_spec tD tR r xs ((x.d, r) :: inn) (want.filter (fun y => decide (y ≠ x.d))) (x.ps.reverse ++ next) h2
   have hw : ∀ y ∈ xs, y.d ∈ want.filter (fun z => decide (z ≠ x.d)) ↔ y.d ∈ want := fun y hy => by
    rw [List.mem_filter]
    exact ⟨fun g => g.1, fun g => ⟨g, decide_eq_true (fun e => h1 y hy e.symm)⟩⟩
   refine ⟨fun e => (i1 e).trans ?_, fun p => (i2 p).trans ?_⟩
   ·
    constructor
    ·
     rintro (g | ⟨y, hy, g1, g2, g3⟩)
     ·
      rcases List.mem_cons.1 g with g | g
      ·
       exact .inr ⟨x, by simp, hc.1, hc.2, g⟩
      ·
       exact .inl g
     ·
      exact .inr ⟨y, List.mem_cons_of_mem _ hy, (hw y hy).1 g1, g2, g3⟩
    ·
     rintro (g | ⟨y, hy, g1, g2, g3⟩)
     ·
      exact .inl (List.mem_cons_of_mem _ g)
     ·
      rcases List.mem_cons.1 hy with e' | hy
      ·
       exact .inl (by rw [g3, e']; simp)
      ·
       exact .inr ⟨y, hy, (hw y hy).2 g1, g2, g3⟩
   ·
    constructor
    ·
     rintro (g | ⟨y, hy, g1, g2, g3⟩)
     ·
      rcases List.mem_append.1 g with g | g
      ·
       exact .inr ⟨x, by simp, hc.1, hc.2, List.mem_reverse.1 g⟩
      ·
       exact .inl g
     ·
      exact .inr ⟨y, List.mem_cons_of_mem _ hy, (hw y hy).1 g1, g2, g3⟩
    ·
     rintro (g | ⟨y, hy, g1, g2, g3⟩)
     ·
      exact .inl (List.mem_append_right _ g)
     ·
      rcases List.mem_cons.1 hy with e' | hy
      ·
       exact .inl (List.mem_append_left _ (List.mem_reverse.2 (e' ▸ g3)))
      ·
       exact .inr ⟨y, hy, (hw y hy).2 g1, g2, g3⟩
  ·
   rw [Si.step_no hc]
   obtain ⟨i1, i2⟩ := steps_spec tD tR r xs inn want next h2
   refine ⟨fun e => (i1 e).trans ?_, fun p => (i2 p).trans ?_⟩
   ·
    constructor
    ·
     rintro (g | ⟨y, hy, g1, g2, g3⟩)
     ·
      exact .inl g
     ·
      exact .inr ⟨y, List.mem_cons_of_mem _ hy, g1, g2, g3⟩
    ·
     rintro (g | ⟨y, hy, g1, g2, g3⟩)
     ·
      exact .inl g
     ·
      rcases List.mem_cons.1 hy with e' | hy
      ·
       exact absurd ⟨e' ▸ g1, e' ▸ g2⟩ hc
      ·
       exact .inr ⟨y, hy, g1, g2, g3⟩
   ·
    constructor
    ·
     rintro (g | ⟨y, hy, g1, g2, g3⟩)
     ·
      exact .inl g
     ·
      exact .inr ⟨y, List.mem_cons_of_mem _ hy, g1, g2, g3⟩
    ·
     rintro (g | ⟨y, hy, g1, g2, g3⟩)
     ·
      exact .inl g
     ·
      rcases List.mem_cons.1 hy with e' | hy
      ·
       exact absurd ⟨e' ▸ g1, e' ▸ g2⟩ hc
      ·
       exact .inr ⟨y, hy, g1, g2, g3⟩
theorem distinct_dx (l : List SE) (hd : l.Pairwise (fun x y => x.f0.toList ≠ y.f0.toList)) (r : Int) : (Si.roundX (l.map toDX) r).Pairwise (fun x y => x.d ≠ y.d) := by
 rw [filter_map_dx, List.pairwise_map]
 exact (hd.filter _).imp (fun h e => h (congrArg ByteArray.toList e))
theorem mem_round (l : List SE) (r : Int) (x : Si.DX) : x ∈ Si.roundX (l.map toDX) r ↔ ∃ y ∈ l, y.f1.f1 = r ∧ x = toDX y := by
 rw [filter_map_dx, List.mem_map]
 constructor
 ·
  rintro ⟨y, hy, rfl⟩
  have := List.mem_filter.1 hy
  exact ⟨y, this.1, by simpa using this.2, rfl⟩
 ·
  rintro ⟨y, hy, hr, rfl⟩
  exact ⟨y, List.mem_filter.2 ⟨hy, by simpa using hr⟩, rfl⟩
theorem rounds_spec (l : List SE) (hb : ∀ x ∈ l, 0 ≤ x.f1.f1 ∧ x.f1.f1 ≤ 60) (hd : l.Pairwise (fun x y => x.f0.toList ≠ y.f0.toList)) (tD : ByteArray) (tR : Int) (P : SE → Prop) (hP : ∀ x ∈ l, ∀ y ∈ l, P x → edge x y → P y) :
  ∀ (m : Nat) (r : Int) (q : List Int) (inn : List (ByteArray × Int)) (want : List ByteArray), -1 ≤ r → r ≤ 60 → r ≤ tR → Si.downO (Si.roundX (l.map toDX)) m r = some q →
  (r = tR → ∀ x ∈ l, x.f1.f1 = r → x.f0 ∈ want → x.f0 = tD → P x) → (r < tR → ∀ x ∈ l, x.f1.f1 = r → x.f0 ∈ want → P x) →
  (∀ e ∈ (q.foldl (Si.roundE tD tR (Si.roundX (l.map toDX))) (inn, want)).1, e ∈ inn ∨ ∃ x ∈ l, e = (x.f0, x.f1.f1) ∧ P x ∧ x.f1.f1 ≤ r) ∧
  (∀ e ∈ inn, e ∈ (q.foldl (Si.roundE tD tR (Si.roundX (l.map toDX))) (inn, want)).1) ∧
  (∀ x ∈ l, x.f1.f1 = r → x.f0 ∈ want → (r = tR → x.f0 = tD) → (x.f0, x.f1.f1) ∈ (q.foldl (Si.roundE tD tR (Si.roundX (l.map toDX))) (inn, want)).1) ∧
  (∀ x ∈ l, x.f1.f1 ≤ r → (x.f0, x.f1.f1) ∈ (q.foldl (Si.roundE tD tR (Si.roundX (l.map toDX))) (inn, want)).1 → (x.f0, x.f1.f1) ∉ inn → ∀ y ∈ l, edge x y → (y.f0, y.f1.f1) ∈ (q.foldl (Si.roundE tD tR (Si.roundX (l.map toDX))) (inn, want)).1)
 | 0, r, q, inn, want, _, _, _, h, _, _ => by simp [Si.downO] at h
 | m + 1, r, q, inn, want, hr0, hr1, hrt, h, w1, w2 => by
  rw [Si.downO] at h
  split at h
  ·
   rename_i hz
   obtain rfl := Option.some.inj h
   have hno : ∀ x ∈ l, x.f1.f1 ≠ r := fun x hx e => by
    have := (mem_round l r (toDX x)).2 ⟨x, hx, e, rfl⟩
    rw [List.eq_nil_of_length_eq_zero hz] at this
    simp at this
   exact ⟨fun e he => .inl he, fun e he => he, fun x hx e => absurd e (hno x hx), fun x hx _ hi hn => absurd hi hn⟩
  ·
   rename_i hz
   have hr : 0 ≤ r := by
    obtain ⟨x, hx⟩ := List.exists_mem_of_length_pos (Nat.pos_of_ne_zero hz)
    obtain ⟨y, hy, e, _⟩ := (mem_round l r x).1 hx
    have := (hb y hy).1
    omega
   rw [w64 (r - 1) (by omega) (by omega)] at h
   obtain ⟨q', hq', rfl⟩ := Option.map_eq_some_iff.1 h
   rw [List.foldl_cons]
   obtain ⟨s1, s2⟩ := steps_spec tD tR r (Si.roundX (l.map toDX) r) inn want [] (distinct_dx l hd r)
   unfold Si.roundE
   dsimp only
   generalize hA : ((Si.roundX (l.map toDX) r).foldl (Si.stepE tD tR r) (inn, want, [])) = A at s1 s2 ⊢
   have hPr : ∀ x ∈ l, x.f1.f1 = r → x.f0 ∈ want → (r = tR → x.f0 = tD) → P x := fun x hx e hw ht => by
    by_cases hrt' : r = tR
    ·
     exact w1 hrt' x hx e hw (ht hrt')
    ·
     exact w2 (by omega) x hx e hw
   obtain ⟨i1, i2, i3, i4⟩ := rounds_spec l hb hd tD tR P hP m (r - 1) q' A.1 A.2.2 (by omega) (by omega) (by omega) hq'
    (fun e => by omega)
    (fun _ x hx e hw => by
     rcases (s2 x.f0).1 hw with g | ⟨y, hy, g1, g2, g3⟩
     ·
      simp at g
     ·
      obtain ⟨z, hz', hzr, rfl⟩ := (mem_round l r y).1 hy
      exact hP z hz' x hx (hPr z hz' hzr g1 g2) ⟨by omega, x.f0, g3, rfl⟩)
   refine ⟨fun e he => ?_, fun e he => i2 e ((s1 e).2 (.inl he)), fun x hx e hw ht => i2 _ ((s1 _).2 (.inr ⟨toDX x, (mem_round l r _).2 ⟨x, hx, e, rfl⟩, hw, ht, by rw [e]; rfl⟩)), fun x hx hxr hin hnot y hy hxy => ?_⟩
   ·
    rcases i1 e he with g | ⟨x, hx, g1, g2, g3⟩
    ·
     rcases (s1 e).1 g with g | ⟨y, hy, g1, g2, g3⟩
     ·
      exact .inl g
     ·
      obtain ⟨z, hz', hzr, rfl⟩ := (mem_round l r y).1 hy
      exact .inr ⟨z, hz', by rw [g3, hzr]; rfl, hPr z hz' hzr g1 g2, by omega⟩
    ·
     exact .inr ⟨x, hx, g1, g2, by omega⟩
   ·
    by_cases hx1 : (x.f0, x.f1.f1) ∈ A.1
    ·
     rcases (s1 _).1 hx1 with g | ⟨z, hz', g1, g2, g3⟩
     ·
      exact absurd g hnot
     ·
      have hxd : x.f0 = z.d := congrArg Prod.fst g3
      have hxr' : x.f1.f1 = r := congrArg Prod.snd g3
      obtain ⟨u, hu, hur, rfl⟩ := (mem_round l r z).1 hz'
      obtain ⟨e1, p, hp, e2⟩ := hxy
      have hwant : y.f0 ∈ A.2.2 := (s2 _).2 (.inr ⟨toDX x, (mem_round l r _).2 ⟨x, hx, hxr', rfl⟩, by show x.f0 ∈ want; rw [hxd]; exact g1, fun e => by show x.f0 = tD; rw [hxd]; exact g2 e, by rw [← Si.ba_ext e2]; exact hp⟩)
      exact i3 y hy (by omega) hwant (fun e => by omega)
    ·
     have hlt : x.f1.f1 ≤ r - 1 := by
      rcases i1 _ hin with g | ⟨z, hz', g1, g2, g3⟩
      ·
       exact absurd g hx1
      ·
       have : x.f1.f1 = z.f1.f1 := congrArg Prod.snd g1
       omega
     exact i4 x hx hlt hin hx1 y hy hxy
theorem inn_least (l : List SE) (hb : ∀ x ∈ l, 0 ≤ x.f1.f1 ∧ x.f1.f1 ≤ 60) (hd : l.Pairwise (fun x y => x.f0.toList ≠ y.f0.toList)) (t : SE) (ht : t ∈ l) (P : SE → Prop) (hP : ∀ x ∈ l, ∀ y ∈ l, P x → edge x y → P y) (hPt : P t) :
  (∀ e ∈ innL l t, ∃ x ∈ l, e = (x.f0, x.f1.f1) ∧ P x ∧ x.f1.f1 ≤ t.f1.f1) ∧ (t.f0, t.f1.f1) ∈ innL l t ∧ (∀ x ∈ l, (x.f0, x.f1.f1) ∈ innL l t → ∀ y ∈ l, edge x y → (y.f0, y.f1.f1) ∈ innL l t) := by
 have h0 := hb t ht
 obtain ⟨q, hq⟩ := down_ok l hb 70 t.f1.f1 (by omega) (by omega) (by omega)
 have e : downsX l t.f1.f1 = q := by unfold downsX; rw [hq]; rfl
 have hinj : ∀ x ∈ l, x.f0 = t.f0 → x = t := fun x hx e => by
  by_cases hne : x = t
  ·
   exact hne
  ·
   exfalso
   obtain ⟨i, hi, rfl⟩ := List.mem_iff_getElem.1 hx
   obtain ⟨j, hj, rfl⟩ := List.mem_iff_getElem.1 ht
   have hp := List.pairwise_iff_getElem.1 hd
   rcases Nat.lt_trichotomy i j with h | h | h
   ·
    exact hp i j hi hj h (congrArg ByteArray.toList e)
   ·
    subst h; exact hne rfl
   ·
    exact hp j i hj hi h (congrArg ByteArray.toList e.symm)
 obtain ⟨i1, i2, i3, i4⟩ := rounds_spec l hb hd t.f0 t.f1.f1 P hP 70 t.f1.f1 q [] [t.f0] (by omega) (by omega) (by omega) hq (fun _ x hx _ _ e => by rw [hinj x hx e]; exact hPt) (fun h => by omega)
 unfold innL Si.pastS
 rw [e]
 refine ⟨fun e he => ?_, i3 t ht rfl (by simp) (fun _ => rfl), fun x hx hi y hy hxy => ?_⟩
 ·
  rcases i1 e he with g | g
  ·
   simp at g
  ·
   exact g
 ·
  rcases i1 _ hi with g | ⟨z, hz, g1, g2, g3⟩
  ·
   simp at g
  ·
   have : x.f1.f1 = z.f1.f1 := congrArg Prod.snd g1
   exact i4 x hx (by omega) hi (by simp) y hy hxy
theorem same_entry (l : List SE) (hd : l.Pairwise (fun x y => x.f0.toList ≠ y.f0.toList)) : ∀ x ∈ l, ∀ y ∈ l, x.f0 = y.f0 → x = y := by
 intro x hx y hy e
 by_cases hne : x = y
 ·
  exact hne
 ·
  exfalso
  obtain ⟨i, hi, rfl⟩ := List.mem_iff_getElem.1 hx
  obtain ⟨j, hj, rfl⟩ := List.mem_iff_getElem.1 hy
  have hp := List.pairwise_iff_getElem.1 hd
  rcases Nat.lt_trichotomy i j with h | h | h
  ·
   exact hp i j hi hj h (congrArg ByteArray.toList e)
  ·
   subst h; exact hne rfl
  ·
   exact hp j i hj hi h (congrArg ByteArray.toList e.symm)
theorem sel_iff (l : List SE) (hb : ∀ x ∈ l, 0 ≤ x.f1.f1 ∧ x.f1.f1 ≤ 60) (hd : l.Pairwise (fun x y => x.f0.toList ≠ y.f0.toList)) (t : SE) (ht : t ∈ l) (lo : Int) (x : SE) (hx : x ∈ l) : Si.selX (innL l t) lo (toDX x) = (decide ((x.f0, x.f1.f1) ∈ innL l t) && decide (x.f1.f1 > lo)) := by
 obtain ⟨h1, _, _⟩ := inn_least l hb hd t ht (fun _ => True) (fun _ _ _ _ _ _ => trivial) trivial
 unfold Si.selX
 show (match Si.look (innL l t) x.f0 with | some v => v == x.f1.f1 && decide (v > lo) | none => false) = _
 cases hv : Si.look (innL l t) x.f0 with
 | none =>
  have hn : (x.f0, x.f1.f1) ∉ innL l t := fun h => by
   obtain ⟨u, hu⟩ := look_some _ _ _ h
   rw [hv] at hu
   cases hu
  rw [decide_eq_false hn]; rfl
 | some v =>
  have hm := look_mem _ _ _ hv
  obtain ⟨y, hy, e, _, _⟩ := h1 _ hm
  have e1 : x.f0 = y.f0 := congrArg Prod.fst e
  have e2 : v = y.f1.f1 := congrArg Prod.snd e
  have exy := same_entry l hd x hx y hy e1
  subst exy
  subst e2
  rw [decide_eq_true hm]
  simp
theorem pastL_eq (l : List SE) (hb : ∀ x ∈ l, 0 ≤ x.f1.f1 ∧ x.f1.f1 ≤ 60) (hd : l.Pairwise (fun x y => x.f0.toList ≠ y.f0.toList)) (dg : ByteArray) (lo : Int) (t : SE) (hf : l.find? (fun x => x.f0.toList == dg.toList) = some t) : pastL l dg lo = l.filter (fun x => decide ((x.f0, x.f1.f1) ∈ innL l t) && decide (x.f1.f1 > lo)) := by
 unfold pastL
 rw [hf]
 exact List.filter_congr (fun x hx => sel_iff l hb hd t (List.mem_of_find?_eq_some hf) lo x hx)
def aheadE (x y : SE) : Prop := x.f1.f1 < y.f1.f1 ∨ x.f1.f1 = y.f1.f1 ∧ x.f1.f0 < y.f1.f0
theorem last_is (m : List SE) (hp : m.Pairwise aheadE) (t : SE) (ht : t ∈ m) (hm : ∀ x ∈ m, x ≠ t → aheadE x t) (hl : m.length - 1 < m.length) : m[m.length - 1] = t := by
 by_cases h : m[m.length - 1] = t
 ·
  exact h
 ·
  exfalso
  obtain ⟨i, hi, e⟩ := List.mem_iff_getElem.1 ht
  have h1 := hm _ (List.getElem_mem hl) h
  have hne : i ≠ m.length - 1 := fun e' => h (by rw [← e]; congr 1; exact e'.symm)
  have h2 := List.pairwise_iff_getElem.1 hp i (m.length - 1) hi hl (by omega)
  rw [e] at h2
  unfold aheadE at h1 h2
  omega
theorem turns_l (dg : ByteArray) (done : List ByteArray) (hd : done.length ≤ 1048576) (m : List SE) (hl : m.length ≤ 1048576) (hp : m.Pairwise aheadE) (hlast : done.contains dg = false → ∃ h : m.length - 1 < m.length, (m[m.length - 1]).f0.toList = dg.toList) : ∀ (n i : Nat), i + n = m.length ∨ (n = 0 ∧ m.length ≤ i) → 1 ≤ i → Evk (fun k => selvedgelaw14_OrderTurns.l0 k dg done m (i : Int)) true
 | 0, i, h, h1 => by
  refine evk_succ ?_
  have c1 : ((i : Int) < (m.length : Int)) = False := eq_false (by omega)
  simp only [selvedgelaw14_OrderTurns.l0, c1, if_false]
  refine Evk.bind (has_ev done (by omega) dg) ?_
  cases hc : done.contains dg with
  | true => exact Evk.of_eq (Evk.ret true) (fun k => if_pos rfl)
  | false =>
   obtain ⟨hlt, he⟩ := hlast hc
   have e := rdE_eq m (m.length - 1) hlt
   have ew : wrap64 ((m.length : Int) - 1) = ((m.length - 1 : Nat) : Int) := by rw [w64 _ (by omega) (by omega)]; omega
   refine Evk.of_eq (Evk.ret true) (fun k => ?_)
   rw [if_neg (by decide), if_pos (by omega), ew, if_pos (by omega), if_pos (by omega), e, he, beq_self_eq_true]
 | n + 1, i, h, h1 => by
  have hi : i < m.length := by omega
  have hi1 : i - 1 < m.length := by omega
  have e := rdE_eq m i hi
  have e1 := rdE_eq m (i - 1) hi1
  have ew : wrap64 ((i : Int) - 1) = ((i - 1 : Nat) : Int) := by rw [w64 _ (by omega) (by omega)]; omega
  have ih := turns_l dg done hd m hl hp hlast n (i + 1) (by omega) (by omega)
  have ha := List.pairwise_iff_getElem.1 hp (i - 1) i hi1 hi (by omega)
  unfold aheadE at ha
  refine Evk.step ih (fun k => ?_)
  rw [selvedgelaw14_OrderTurns.l0, if_pos (by omega), ew, if_pos (by omega), if_pos (by omega), if_pos (by omega), e, e1, if_neg (by omega), ws i (by omega)]
  by_cases hq : (m[i - 1]).f1.f1 = (m[i]).f1.f1
  ·
   rw [if_pos hq, if_neg (by omega)]
  ·
   rw [if_neg hq]
theorem top_last (l : List SE) (hb : ∀ x ∈ l, 0 ≤ x.f1.f1 ∧ x.f1.f1 ≤ 60) (hd : l.Pairwise (fun x y => x.f0.toList ≠ y.f0.toList)) (hp : l.Pairwise aheadE) (dg : ByteArray) (t : SE) (hf : l.find? (fun x => x.f0.toList == dg.toList) = some t) (done : List ByteArray) (hn : done.contains dg = false) :
  ∃ h : (newL done (pastL l dg (t.f1.f1 - 12))).length - 1 < (newL done (pastL l dg (t.f1.f1 - 12))).length, ((newL done (pastL l dg (t.f1.f1 - 12)))[(newL done (pastL l dg (t.f1.f1 - 12))).length - 1]).f0.toList = dg.toList := by
 have htm := List.mem_of_find?_eq_some hf
 have htd : t.f0.toList = dg.toList := by simpa using List.find?_some hf
 have htd' : t.f0 = dg := Si.ba_ext htd
 rw [pastL_eq l hb hd dg (t.f1.f1 - 12) t hf]
 obtain ⟨i1, i2, _⟩ := inn_least l hb hd t htm (fun x => x.f1.f1 < t.f1.f1 ∨ x = t) (fun x hx y hy h hxy => by
  obtain ⟨h1, _⟩ := hxy
  rcases h with h | rfl
  ·
   exact .inl (by omega)
  ·
   exact .inl (by omega)) (.inr rfl)
 generalize hM : newL done (l.filter (fun x => decide ((x.f0, x.f1.f1) ∈ innL l t) && decide (x.f1.f1 > t.f1.f1 - 12))) = m
 have hmem : ∀ x ∈ m, x.f1.f1 < t.f1.f1 ∨ x = t := fun x hx => by
  rw [← hM] at hx
  have h1 := List.mem_filter.1 (List.mem_filter.1 hx).1
  have h2 := h1.2
  rw [Bool.and_eq_true] at h2
  obtain ⟨y, hy, e, hP, _⟩ := i1 _ (of_decide_eq_true h2.1)
  rw [same_entry l hd x h1.1 y hy (congrArg Prod.fst e)]
  exact hP
 have htm' : t ∈ m := by
  rw [← hM]
  refine List.mem_filter.2 ⟨List.mem_filter.2 ⟨htm, ?_⟩, ?_⟩
  ·
   rw [decide_eq_true i2, decide_eq_true (by omega)]; rfl
  ·
   rw [htd', hn]; rfl
 have hpm : m.Pairwise aheadE := by
  rw [← hM]
  exact (hp.filter _).filter _
 have hlen : m.length - 1 < m.length := by
  have := List.length_pos_of_mem htm'
  omega
 refine ⟨hlen, ?_⟩
 rw [last_is m hpm t htm' (fun x hx hne => by
  rcases hmem x hx with h | h
  ·
   exact .inl h
  ·
   exact absurd h hne) hlen]
 exact htd
def aheadB (x y : SE) : Bool := if x.f1.f1 = y.f1.f1 then decide (x.f1.f0 < y.f1.f0) else decide (x.f1.f1 < y.f1.f1)
theorem aheadB_true (x y : SE) (h : aheadB x y = true) : aheadE x y := by
 unfold aheadB at h
 unfold aheadE
 split at h
 ·
  rename_i e; exact .inr ⟨e, of_decide_eq_true h⟩
 ·
  exact .inl (of_decide_eq_true h)
def DigOk (nn : Int) (x : SE) : Prop := ∃ r, Evk (fun k => selvedgeref08_Digest.f k x.f1.f0 x.f1.f1 x.f1.f2 x.f1.f3 x.f1.f4.f0 x.f1.f4.f1 nn) r
def MisOk (nn low : Int) (l : List SE) (x : SE) : Prop := ∃ r : List ByteArray, Evk (fun k => selvedgeref11_Missing.f k nn low l x.f1.f0 x.f1.f1 x.f1.f2 x.f1.f3 x.f1.f4.f0 x.f1.f4.f1) r
theorem right_j2 (nn low : Int) (l : List SE) (hl : l.length ≤ 1048576) (i : Nat) (hi : i < l.length) (x : SE) (hx : x = l[i]) (c : Bool) (hn : Evk (fun k => selvedgeref11_Right.l0 k ((i + 1 : Nat) : Int) nn low l) c) (z : Bool) :
  ∃ b, Evk (fun k => selvedgeref11_Right.j2 k (i : Int) z nn low l x.f0 x.f1.f0 x.f1.f1 x.f1.f2 x.f1.f3 x.f1.f4.f0 x.f1.f4.f1) b ∧ (b = true → c = true ∧ ∀ h : 0 < i, aheadE (l[i - 1]'(by omega)) (l[i])) := by
 cases z with
 | true => exact ⟨false, Evk.step (Evk.ret false) (fun k => by rw [selvedgeref11_Right.j2, if_pos rfl]), fun h => by cases h⟩
 | false =>
  by_cases h0 : (i : Int) > 0
  ·
   have hi1 : i - 1 < l.length := by omega
   have e1 := rdE_eq l (i - 1) hi1
   have ew : wrap64 ((i : Int) - 1) = ((i - 1 : Nat) : Int) := by rw [w64 _ (by omega) (by omega)]; omega
   cases ha : aheadB (l[i - 1]) x with
   | false =>
    refine ⟨false, Evk.step (Evk.ret false) (fun k => ?_), fun h => by cases h⟩
    rw [selvedgeref11_Right.j2, if_neg (by decide), if_pos h0, ew, if_pos (by omega), if_pos (by omega), e1]
    unfold selvedgeref11_ahead.f
    unfold aheadB at ha
    split at ha
    ·
     rename_i e; rw [if_pos e, ha]; rfl
    ·
     rename_i e; rw [if_neg e, ha]; rfl
   | true =>
    refine ⟨c, Evk.step hn (fun k => ?_), fun h => ⟨h, fun _ => by rw [← hx]; exact aheadB_true _ _ ha⟩⟩
    rw [selvedgeref11_Right.j2, if_neg (by decide), if_pos h0, ew, if_pos (by omega), if_pos (by omega), e1, ws i (by omega)]
    unfold selvedgeref11_ahead.f
    unfold aheadB at ha
    split at ha
    ·
     rename_i e; rw [if_pos e, ha]; rfl
    ·
     rename_i e; rw [if_neg e, ha]; rfl
  ·
   exact ⟨c, Evk.step hn (fun k => by rw [selvedgeref11_Right.j2, if_neg (by decide), if_neg h0, ws i (by omega)]), fun h => ⟨h, fun h' => by omega⟩⟩
theorem right_l (nn low : Int) (l : List SE) (hl : l.length ≤ 1048576) (hdig : ∀ x ∈ l, DigOk nn x) (hmis : ∀ x ∈ l, MisOk nn low l x) : ∀ (n i : Nat), i + n = l.length → ∃ b, Evk (fun k => selvedgeref11_Right.l0 k (i : Int) nn low l) b ∧ (b = true → ∀ (j : Nat) (hj : j < l.length), i ≤ j → ∀ h : 0 < j, aheadE (l[j - 1]'(by omega)) (l[j]))
 | 0, i, h => ⟨true, Evk.step (Evk.ret true) (fun k => by rw [selvedgeref11_Right.l0, if_neg (by omega)]), fun _ j hj hij => by omega⟩
 | n + 1, i, h => by
  have hi : i < l.length := by omega
  have e := rdE_eq l i hi
  obtain ⟨c, hc1, hc2⟩ := right_l nn low l hl hdig hmis n (i + 1) (by omega)
  obtain ⟨r, hr⟩ := hdig _ (List.getElem_mem hi)
  obtain ⟨q, hq⟩ := hmis _ (List.getElem_mem hi)
  have hj := right_j2 nn low l hl i hi (l[i]) rfl c hc1
  have key : ∃ z : Bool, ∀ b, Evk (fun k => selvedgeref11_Right.j2 k (i : Int) z nn low l (l[i]).f0 (l[i]).f1.f0 (l[i]).f1.f1 (l[i]).f1.f2 (l[i]).f1.f3 (l[i]).f1.f4.f0 (l[i]).f1.f4.f1) b → Evk (fun k => selvedgeref11_Right.l0 k (i : Int) nn low l) b := by
   have c1 : ((i : Int) < (l.length : Int)) = True := eq_true (by omega)
   have c2 : (0 ≤ (i : Int)) = True := eq_true (by omega)
   by_cases h1 : r.2 = 0
   ·
    by_cases h2 : r.1.toList = (l[i]).f0.toList
    ·
     by_cases h3 : (l[i]).f1.f1 ≤ low
     ·
      refine ⟨true, fun b hb => evk_succ ?_⟩
      simp only [selvedgeref11_Right.l0, c1, c2, if_true, e]
      refine Evk.bind hr (Evk.bind hq ?_)
      exact Evk.of_eq hb (fun k => by rw [if_pos h1, if_pos h2, if_pos h3])
     ·
      refine ⟨decide ((q.length : Int) > 0), fun b hb => evk_succ ?_⟩
      simp only [selvedgeref11_Right.l0, c1, c2, if_true, e]
      refine Evk.bind hr (Evk.bind hq ?_)
      exact Evk.of_eq hb (fun k => by rw [if_pos h1, if_pos h2, if_neg h3])
    ·
     refine ⟨true, fun b hb => evk_succ ?_⟩
     simp only [selvedgeref11_Right.l0, c1, c2, if_true, e]
     refine Evk.bind hr (Evk.bind hq ?_)
     exact Evk.of_eq hb (fun k => by rw [if_pos h1, if_neg h2])
   ·
    refine ⟨true, fun b hb => evk_succ ?_⟩
    simp only [selvedgeref11_Right.l0, c1, c2, if_true, e]
    refine Evk.bind hr (Evk.bind hq ?_)
    exact Evk.of_eq hb (fun k => by rw [if_neg h1])
  obtain ⟨z, hz⟩ := key
  obtain ⟨b, hb1, hb2⟩ := hj z
  refine ⟨b, hz b hb1, fun hb j hjl hij h0 => ?_⟩
  obtain ⟨g1, g2⟩ := hb2 hb
  by_cases hji : j = i
  ·
   subst hji; exact g2 h0
  ·
   exact hc2 g1 j hjl (by omega) h0
theorem aheadE_trans {x y z : SE} (h1 : aheadE x y) (h2 : aheadE y z) : aheadE x z := by
 unfold aheadE at *
 omega
theorem pairs (l : List SE) (h : ∀ (j : Nat) (hj : j < l.length), ∀ h : 0 < j, aheadE (l[j - 1]'(by omega)) (l[j])) : l.Pairwise aheadE := by
 refine List.pairwise_iff_getElem.2 (fun i j hi hj hij => ?_)
 obtain ⟨d, rfl⟩ : ∃ d, j = i + 1 + d := ⟨j - i - 1, by omega⟩
 clear hij
 induction d with
 | zero => exact h (i + 1) hj (by omega)
 | succ d ih =>
  have h1 := ih (by omega)
  have h2 := h (i + 1 + (d + 1)) hj (by omega)
  exact aheadE_trans h1 h2
theorem right_ev (nn low : Int) (l : List SE) (hl : l.length ≤ 1048576) (hdig : ∀ x ∈ l, DigOk nn x) (hmis : ∀ x ∈ l, MisOk nn low l x) : ∃ b, Evk (fun k => selvedgeref11_Right.f k nn low l) b ∧ (b = true → l.Pairwise aheadE) := by
 obtain ⟨b, hb1, hb2⟩ := right_l nn low l hl hdig hmis l.length 0 (by omega)
 have hj : ∀ z : Bool, ∃ c, Evk (fun k => selvedgeref11_Right.j0 k z nn low l) c ∧ (c = true → l.Pairwise aheadE) := fun z => by
  cases z with
  | true => exact ⟨false, Evk.step (Evk.ret false) (fun k => by rw [selvedgeref11_Right.j0, if_pos rfl]), fun h => by cases h⟩
  | false => exact ⟨b, Evk.step hb1 (fun k => by rw [selvedgeref11_Right.j0, if_neg (by decide)]; rfl), fun h => pairs l (fun j hj h0 => hb2 h j hj (by omega) h0)⟩
 have hmay : ∃ m : Bool, selvedgeref05_May.f nn = some m := by
  unfold selvedgeref05_May.f
  split
  ·
   exact ⟨_, rfl⟩
  ·
   split
   ·
    split
    ·
     exact ⟨_, rfl⟩
    ·
     exact ⟨_, rfl⟩
   ·
    exact ⟨_, rfl⟩
 obtain ⟨m, hm⟩ := hmay
 cases m with
 | true =>
  obtain ⟨c, h1, h2⟩ := hj (decide (low < 0))
  exact ⟨c, Evk.of_eq h1 (fun k => by rw [selvedgeref11_Right.f, hm]; rfl), h2⟩
 | false =>
  obtain ⟨c, h1, h2⟩ := hj true
  exact ⟨c, Evk.of_eq h1 (fun k => by rw [selvedgeref11_Right.f, hm]; rfl), h2⟩
theorem rround_l (l : List SE) (hl : l.length ≤ 1048576) (a b r : Int) : ∀ (n i : Nat) (acc : List SE), i + n = l.length → acc.length ≤ i → Evk (fun k => selvedgeref11_Round.l0 k r acc (i : Int) a b l) (acc ++ (l.drop i).filter (fun x => x.f1.f1 == r))
 | 0, i, acc, h, ha => by
  rw [List.drop_eq_nil_of_le (by omega), List.filter_nil, List.append_nil]
  exact Evk.step (Evk.ret acc) (fun k => by rw [selvedgeref11_Round.l0, if_neg (by omega)])
 | n + 1, i, acc, h, ha => by
  have hi : i < l.length := by omega
  have e := rdE_eq l i hi
  rw [List.drop_eq_getElem_cons hi, List.filter_cons]
  by_cases hq : (l[i]).f1.f1 = r
  ·
   have ih := rround_l l hl a b r n (i + 1) (acc ++ [l[i]]) (by omega) (by rw [List.length_append]; simp; omega)
   rw [List.append_assoc] at ih
   rw [if_pos (by rw [hq]; exact beq_self_eq_true r)]
   exact Evk.step ih (fun k => by rw [selvedgeref11_Round.l0, if_pos (by omega), if_pos (by omega), e, if_pos hq, if_pos (show acc.length < 1466015503701 by omega), ws i (by omega)])
  ·
   rw [if_neg (by simpa using hq)]
   exact Evk.step (rround_l l hl a b r n (i + 1) acc (by omega) (by omega)) (fun k => by rw [selvedgeref11_Round.l0, if_pos (by omega), if_pos (by omega), e, if_neg hq, ws i (by omega)])
theorem rround_ev (l : List SE) (hl : l.length ≤ 1048576) (a b r : Int) : Evk (fun k => selvedgeref11_Round.f k a b l r) (l.filter (fun x => x.f1.f1 == r)) := by
 have h := rround_l l hl a b r l.length 0 [] (by omega) (by simp)
 rw [List.drop_zero, List.nil_append] at h
 exact h
theorem miss_l1 (rs : List SE) (hrs : rs.length ≤ 1048576) (out : List ByteArray) (hout : out.length ≤ 1048576) (a b : Int) (c : List S129) (ps : List ByteArray) (d e : Int) (i : Nat) (hi : i < ps.length) (hps : ps.length ≤ 1048576)
  (h1 : ∃ r, Evk (fun k => selvedgeref11_Missing.l0 k rs out ((i + 1 : Nat) : Int) a b c ps d e) r) (h2 : ∃ r, Evk (fun k => selvedgeref11_Missing.l0 k rs (out ++ [ps[i]]) ((i + 1 : Nat) : Int) a b c ps d e) r) :
  ∀ (n j : Nat) (z : Bool), j + n = rs.length → ∃ r, Evk (fun k => selvedgeref11_Missing.l1 k rs out (i : Int) z (j : Int) a b c ps d e) r
 | 0, j, z, h => by
  cases z with
  | true =>
   obtain ⟨r, hr⟩ := h1
   exact ⟨r, Evk.step hr (fun k => by rw [selvedgeref11_Missing.l1, if_neg (by omega), if_pos rfl, ws i (by omega)])⟩
  | false =>
   obtain ⟨r, hr⟩ := h2
   refine ⟨r, Evk.step hr (fun k => ?_)⟩
   rw [selvedgeref11_Missing.l1, if_neg (by omega), if_neg (by decide), if_pos (by omega), if_pos (by omega), if_pos (show out.length < 8796093022208 by omega), rdOf_eq ps i hi, ws i (by omega)]
 | n + 1, j, z, h => by
  cases z with
  | true =>
   obtain ⟨r, hr⟩ := miss_l1 rs hrs out hout a b c ps d e i hi hps h1 h2 n (j + 1) true (by omega)
   exact ⟨r, Evk.step hr (fun k => by rw [selvedgeref11_Missing.l1, if_pos (by omega), if_pos rfl, ws j (by omega)])⟩
  | false =>
   obtain ⟨r, hr⟩ := miss_l1 rs hrs out hout a b c ps d e i hi hps h1 h2 n (j + 1) (((rd_T37 rs (j : Int)).f0).toList == (rdOf ByteArray.empty ps (i : Int)).toList) (by omega)
   exact ⟨r, Evk.step hr (fun k => by rw [selvedgeref11_Missing.l1, if_pos (by omega), if_neg (by decide), if_pos (by omega), if_pos (by omega), if_pos (by omega), ws j (by omega)])⟩
theorem miss_l0 (rs : List SE) (hrs : rs.length ≤ 1048576) (a b : Int) (c : List S129) (ps : List ByteArray) (d e : Int) (hps : ps.length ≤ 1048576) : ∀ (n i : Nat) (out : List ByteArray), i + n = ps.length → out.length ≤ i → ∃ r, Evk (fun k => selvedgeref11_Missing.l0 k rs out (i : Int) a b c ps d e) r
 | 0, i, out, h, ho => ⟨out, Evk.step (Evk.ret out) (fun k => by rw [selvedgeref11_Missing.l0, if_neg (by omega)])⟩
 | n + 1, i, out, h, ho => by
  have hi : i < ps.length := by omega
  obtain ⟨r, hr⟩ := miss_l1 rs hrs out (by omega) a b c ps d e i hi hps (miss_l0 rs hrs a b c ps d e hps n (i + 1) out (by omega) (by omega)) (miss_l0 rs hrs a b c ps d e hps n (i + 1) (out ++ [ps[i]]) (by omega) (by rw [List.length_append]; simp; omega)) rs.length 0 false (by omega)
  exact ⟨r, Evk.step hr (fun k => by rw [selvedgeref11_Missing.l0, if_pos (by omega)]; rfl)⟩
theorem miss_ev (nn low : Int) (l : List SE) (hl : l.length ≤ 1048576) (x : SE) (hps : x.f1.f3.length ≤ 1048576) : MisOk nn low l x := by
 by_cases hq : wrap64 (x.f1.f1 - 1) ≤ low
 ·
  exact ⟨[], Evk.of_eq (Evk.ret []) (fun k => by rw [selvedgeref11_Missing.f, if_pos hq])⟩
 ·
  have h1 := rround_ev l hl nn low (wrap64 (x.f1.f1 - 1))
  have hle := List.length_filter_le (fun y : SE => y.f1.f1 == wrap64 (x.f1.f1 - 1)) l
  obtain ⟨r, hr⟩ := miss_l0 (l.filter (fun y => y.f1.f1 == wrap64 (x.f1.f1 - 1))) (by omega) x.f1.f0 x.f1.f1 x.f1.f2 x.f1.f3 x.f1.f4.f0 x.f1.f4.f1 hps x.f1.f3.length 0 [] (by omega) (by simp)
  exact ⟨r, Evk.of_eq (Evk.bind h1 hr) (fun k => by rw [selvedgeref11_Missing.f, if_neg hq])⟩
theorem rfind_l (l : List SE) (hl : l.length ≤ 1048576) (a b : Int) (dg : ByteArray) : ∀ (n i : Nat), i + n = l.length → Evk (fun k => selvedgeref11_Find.l0 k dg (i : Int) a b l) (match (l.drop i).find? (fun x => x.f0.toList == dg.toList) with
  | some x => (x.f0, x.f1.f0, x.f1.f1, x.f1.f2, x.f1.f3, x.f1.f4.f0, x.f1.f4.f1, true)
  | none => ((⟨#[]⟩ : ByteArray), 0, 0, [], [], 0, 0, false))
 | 0, i, h => by
  rw [List.drop_eq_nil_of_le (by omega)]
  exact Evk.step (Evk.ret _) (fun k => by rw [selvedgeref11_Find.l0, if_neg (by omega)]; rfl)
 | n + 1, i, h => by
  have hi : i < l.length := by omega
  have e := rdE_eq l i hi
  rw [List.drop_eq_getElem_cons hi, List.find?_cons]
  by_cases hq : (l[i]).f0.toList = dg.toList
  ·
   rw [show ((l[i]).f0.toList == dg.toList) = true from by rw [hq]; exact beq_self_eq_true _]
   exact Evk.step (Evk.ret _) (fun k => by rw [selvedgeref11_Find.l0, if_pos (by omega), if_pos (by omega), e, if_pos hq])
  ·
   rw [show ((l[i]).f0.toList == dg.toList) = false from beq_eq_false_iff_ne.2 hq]
   exact Evk.step (rfind_l l hl a b dg n (i + 1) (by omega)) (fun k => by rw [selvedgeref11_Find.l0, if_pos (by omega), if_pos (by omega), e, if_neg hq, ws i (by omega)])
theorem bt_eq (s : ByteArray) (i : Nat) (h : i < s.data.toList.length) : bt s (i : Int) = ((s.data.toList[i]).toNat : Int) := by
 have h' : i < s.size := by rw [Array.length_toList] at h; exact h
 unfold bt
 rw [dif_pos (by rw [Int.toNat_natCast]; exact h')]
 simp only [Int.toNat_natCast]
 rfl
theorem less_l (a b : ByteArray) (ha : a.size ≤ 140737488351232) (hb : b.size ≤ 140737488351232) : ∀ (n i : Nat), i + n = a.size → i ≤ b.size → Evk (fun kk => selvedgeref01_Less.l0 kk a b (i : Int)) (Op.bytesLess (a.data.toList.drop i) (b.data.toList.drop i))
 | n, i, h, hib => by
  have la : a.data.toList.length = a.size := Array.length_toList
  have lb : b.data.toList.length = b.size := Array.length_toList
  cases n with
  | zero =>
   rw [List.drop_eq_nil_of_le (show a.data.toList.length ≤ i by omega)]
   have hj : Evk (fun kk => selvedgeref01_Less.j1 kk a b (i : Int) false) (Op.bytesLess [] (b.data.toList.drop i)) := by
    refine Evk.step (Evk.ret _) (fun kk => ?_)
    rw [selvedgeref01_Less.j1, if_neg (by decide)]
    congr 1
    by_cases hl : i < b.size
    ·
     rw [List.drop_eq_getElem_cons (show i < b.data.toList.length by omega)]
     exact decide_eq_true (by omega)
    ·
     rw [List.drop_eq_nil_of_le (show b.data.toList.length ≤ i by omega)]
     exact decide_eq_false (by omega)
   exact Evk.step hj (fun kk => by rw [selvedgeref01_Less.l0, if_neg (by omega)])
  | succ n =>
   have hia : i < a.data.toList.length := by omega
   rw [List.drop_eq_getElem_cons hia]
   by_cases hl : i < b.size
   ·
    have hib' : i < b.data.toList.length := by omega
    rw [List.drop_eq_getElem_cons hib']
    have e1 := bt_eq a i hia
    have e2 := bt_eq b i hib'
    have hgo : ∀ v : Bool, Evk (fun kk => if (bt a (i : Int)) = (bt b (i : Int)) then (selvedgeref01_Less.l0 kk a b ((i + 1 : Nat) : Int)) else (some (decide ((bt a (i : Int)) < (bt b (i : Int)))))) v → Evk (fun kk => selvedgeref01_Less.l0 kk a b (i : Int)) v := fun v hv => by
     have hj : Evk (fun kk => selvedgeref01_Less.j1 kk a b (i : Int) true) v := Evk.step hv (fun kk => by rw [selvedgeref01_Less.j1, if_pos rfl, if_pos (by omega), if_pos (by omega), if_pos (by omega), ws i (by omega)])
     exact Evk.step hj (fun kk => by rw [selvedgeref01_Less.l0, if_pos (by omega), decide_eq_true (show (i : Int) < (b.size : Int) by omega)])
    refine hgo _ ?_
    rw [e1, e2]
    generalize hx : a.data.toList[i] = x
    generalize hy : b.data.toList[i] = y
    rw [Op.bytesLess]
    by_cases hxy : x = y
    ·
     subst hxy
     have hn : ¬ x < x := UInt8.lt_irrefl x
     rw [decide_eq_false hn, Bool.false_or, beq_self_eq_true, Bool.true_and]
     exact Evk.of_eq (less_l a b ha hb n (i + 1) (by omega) (by omega)) (fun kk => if_pos rfl)
    ·
     have hne : ¬ ((x.toNat : Int) = (y.toNat : Int)) := fun h => hxy (UInt8.toNat_inj.1 (by omega))
     rw [beq_eq_false_iff_ne.2 hxy, Bool.false_and, Bool.or_false]
     refine Evk.of_eq (Evk.ret _) (fun kk => ?_)
     rw [if_neg hne]
     congr 1
     by_cases hlt : x < y
     ·
      have := UInt8.lt_iff_toNat_lt.1 hlt
      rw [decide_eq_true hlt, decide_eq_true (by omega)]
     ·
      have : ¬ x.toNat < y.toNat := fun h => hlt (UInt8.lt_iff_toNat_lt.2 h)
      rw [decide_eq_false hlt, decide_eq_false (by omega)]
   ·
    rw [List.drop_eq_nil_of_le (show b.data.toList.length ≤ i by omega)]
    have hj : Evk (fun kk => selvedgeref01_Less.j1 kk a b (i : Int) false) (Op.bytesLess (a.data.toList[i] :: a.data.toList.drop (i + 1)) []) := by
     refine Evk.step (Evk.ret _) (fun kk => ?_)
     rw [selvedgeref01_Less.j1, if_neg (by decide)]
     congr 1
     exact decide_eq_false (by omega)
    exact Evk.step hj (fun kk => by rw [selvedgeref01_Less.l0, if_pos (by omega), decide_eq_false (show ¬ (i : Int) < (b.size : Int) by omega)])
theorem less_ev (a b : ByteArray) (ha : a.size ≤ 140737488351232) (hb : b.size ≤ 140737488351232) : Evk (fun kk => selvedgeref01_Less.f kk a b) (Op.bytesLess a.data.toList b.data.toList) := less_l a b ha hb a.size 0 (by omega) (by omega)
theorem ex_if {α : Type} {p : Prop} [Decidable p] {f g : Nat → Option α} (hf : ∃ v, Evk f v) (hg : ∃ v, Evk g v) : ∃ v, Evk (fun k => if p then f k else g k) v := by
 by_cases h : p
 ·
  obtain ⟨v, hv⟩ := hf
  exact ⟨v, Evk.of_eq hv (fun k => if_pos h)⟩
 ·
  obtain ⟨v, hv⟩ := hg
  exact ⟨v, Evk.of_eq hv (fun k => if_neg h)⟩
theorem ex_bind {α β : Type} {f : Nat → Option α} {g : Nat → α → Option β} (hf : ∃ v, Evk f v) (hg : ∀ v, ∃ u, Evk (fun k => g k v) u) : ∃ u, Evk (fun k => (f k).bind (g k)) u := by
 obtain ⟨v, hv⟩ := hf
 obtain ⟨u, hu⟩ := hg v
 exact ⟨u, Evk.bind hv hu⟩
theorem ex_succ {α : Type} {f : Nat → Option α} (h : ∃ v, Evk (fun k => f (k + 1)) v) : ∃ v, Evk f v := by
 obtain ⟨v, hv⟩ := h
 exact ⟨v, evk_succ hv⟩
theorem ex_ret {α : Type} (v : α) : ∃ u, Evk (fun _ : Nat => some v) u := ⟨v, Evk.ret v⟩
theorem may7_l (a b : Int) (l : List ByteArray) (hl : l.length ≤ 1048576) : ∀ (n i : Nat), i + n = l.length → ∃ r, Evk (fun k => selvedgeref07_May.l0 k (i : Int) a b l) r
 | 0, i, h => ⟨true, Evk.step (Evk.ret true) (fun k => by rw [selvedgeref07_May.l0, if_neg (by omega)])⟩
 | n + 1, i, h => by
  have c1 : ((i : Int) < (l.length : Int)) = True := eq_true (by omega)
  have c2 : (0 ≤ (i : Int)) = True := eq_true (by omega)
  refine ex_succ ?_
  simp only [selvedgeref07_May.l0, c1, c2, if_true, ws i (show i ≤ 4611686018427387000 by omega)]
  exact ex_if (ex_ret _) (ex_if (ex_ret _) (may7_l a b l hl n (i + 1) (by omega)))
theorem may7_ev (a b : Int) (l : List ByteArray) (hl : l.length ≤ 1048576) : ∃ r, Evk (fun k => selvedgeref07_May.f k a b l) r := by
 have hj : ∀ z : Bool, ∃ r, Evk (fun k => selvedgeref07_May.j0 k z a b l) r := fun z => by
  refine ex_succ ?_
  simp only [selvedgeref07_May.j0]
  exact ex_if (ex_ret _) (may7_l a b l hl l.length 0 (by omega))
 unfold selvedgeref07_May.f
 exact ex_if (hj _) (ex_if (hj _) (ex_if (hj _) (ex_if (hj _) (ex_if (hj _) (hj _)))))
theorem may8_l1 (a b : Int) (c : List S129) (l : List ByteArray) (hl : l.length ≤ 1048576) (hz : ∀ x ∈ l, x.size ≤ 140737488351232) (d e : Int) : ∀ (n i : Nat), i + n = l.length → ∃ r, Evk (fun k => selvedgeref08_May.l1 k (i : Int) a b c l d e) r
 | 0, i, h => by
  have c1 : ((i : Int) < (l.length : Int)) = False := eq_false (by omega)
  refine ex_succ ?_
  simp only [selvedgeref08_May.l1, c1, if_false]
  refine ex_bind (f := fun _ => selvedgeref03_May.f d e) ?_ (fun v => ex_bind (f := fun _ => selvedgeref08_Third.f b) ?_ (fun u => ex_if (ex_if (ex_ret _) (ex_if (ex_ret _) (ex_ret _))) (ex_ret _)))
  ·
   unfold selvedgeref03_May.f
   exact ex_if (ex_if (ex_if (ex_ret _) (ex_ret _)) (ex_ret _)) (ex_ret _)
  ·
   unfold selvedgeref08_Third.f
   exact ex_if (ex_ret _) (ex_ret _)
 | n + 1, i, h => by
  have c1 : ((i : Int) < (l.length : Int)) = True := eq_true (by omega)
  have c2 : (0 ≤ (i : Int)) = True := eq_true (by omega)
  have hi : i < l.length := by omega
  have ei := rdOf_eq l i hi
  have ih := may8_l1 a b c l hl hz d e n (i + 1) (by omega)
  refine ex_succ ?_
  simp only [selvedgeref08_May.l1, c1, c2, if_true, ws i (show i ≤ 4611686018427387000 by omega), ei]
  refine ex_if ?_ (ex_ret _)
  by_cases h0 : (i : Int) > 0
  ·
   have ew : wrap64 ((i : Int) - 1) = ((i - 1 : Nat) : Int) := by rw [w64 _ (by omega) (by omega)]; omega
   have hi1 : i - 1 < l.length := by omega
   have ei1 := rdOf_eq l (i - 1) hi1
   have c3 : (0 ≤ ((i - 1 : Nat) : Int)) = True := eq_true (by omega)
   have c4 : (((i - 1 : Nat) : Int) < (l.length : Int)) = True := eq_true (by omega)
   have c5 : ((i : Int) > 0) = True := eq_true h0
   simp only [c5, if_true, ew, c3, c4, ei1]
   exact ex_bind ⟨_, less_ev (l[i - 1]) (l[i]) (hz _ (List.getElem_mem hi1)) (hz _ (List.getElem_mem hi))⟩ (fun v => ex_if ih (ex_ret _))
  ·
   have c5 : ((i : Int) > 0) = False := eq_false h0
   simp only [c5, if_false]
   exact ih
theorem may8_ev (a b : Int) (c : List S129) (l : List ByteArray) (hc : c.length ≤ 1048576) (hcl : ∀ x ∈ c, x.f2.length ≤ 1048576) (hl : l.length ≤ 1048576) (hz : ∀ x ∈ l, x.size ≤ 140737488351232) (d e nn : Int) : ∃ r, Evk (fun k => selvedgeref08_May.f k a b c l d e nn) r := by
 have hm5 : ∀ x : Int, ∃ m : Bool, selvedgeref05_May.f x = some m := fun x => by
  unfold selvedgeref05_May.f
  split
  ·
   exact ⟨_, rfl⟩
  ·
   split
   ·
    split
    ·
     exact ⟨_, rfl⟩
    ·
     exact ⟨_, rfl⟩
   ·
    exact ⟨_, rfl⟩
 have h3 : ∀ z : Bool, ∃ r, Evk (fun k => selvedgeref08_May.j3 k z a b c l d e) r := fun z => by
  refine ex_succ ?_
  simp only [selvedgeref08_May.j3]
  exact ex_if (ex_ret _) (may8_l1 a b c l hl hz d e l.length 0 (by omega))
 have h2 : ∀ z : Bool, ∃ r, Evk (fun k => selvedgeref08_May.j2 k nn z a b c l d e) r := fun z => by
  refine ex_succ ?_
  simp only [selvedgeref08_May.j2]
  refine ex_if (ex_ret _) (ex_if ?_ (h3 _))
  refine ex_bind (f := fun _ => selvedgeref05_Quorum.f nn) ?_ (fun v => ex_if (h3 _) (h3 _))
  unfold selvedgeref05_Quorum.f
  obtain ⟨m, hm⟩ := hm5 nn
  rw [hm]
  exact ex_if (ex_ret _) (ex_ret _)
 have h0 : ∀ (n i : Nat), i + n = c.length → ∃ r, Evk (fun k => selvedgeref08_May.l0 k nn (i : Int) a b c l d e) r := by
  intro n
  induction n with
  | zero =>
   intro i h
   have c1 : ((i : Int) < (c.length : Int)) = False := eq_false (by omega)
   refine ex_succ ?_
   simp only [selvedgeref08_May.l0, c1, if_false]
   exact ex_if (h2 _) (h2 _)
  | succ n ih =>
   intro i h
   have hi : i < c.length := by omega
   have c1 : ((i : Int) < (c.length : Int)) = True := eq_true (by omega)
   have c2 : (0 ≤ (i : Int)) = True := eq_true (by omega)
   have e1 : rd_T129 c (i : Int) = c[i] := by
    unfold rd_T129
    rw [Int.toNat_natCast, List.getD_eq_getElem?_getD, List.getElem?_eq_getElem hi]; rfl
   refine ex_succ ?_
   simp only [selvedgeref08_May.l0, c1, c2, if_true, e1, ws i (show i ≤ 4611686018427387000 by omega)]
   exact ex_bind (may7_ev _ _ _ (hcl _ (List.getElem_mem hi))) (fun v => ex_if (ex_if (ex_ret _) (ih (i + 1) (by omega))) (ex_ret _))
 have hj : ∀ z : Bool, ∃ r, Evk (fun k => selvedgeref08_May.j0 k nn z a b c l d e) r := fun z => by
  refine ex_succ ?_
  simp only [selvedgeref08_May.j0]
  exact ex_if (ex_ret _) (h0 c.length 0 (by omega))
 unfold selvedgeref08_May.f
 obtain ⟨m, hm⟩ := hm5 nn
 rw [hm]
 exact ex_if (ex_if (hj _) (ex_if (hj _) (ex_if (hj _) (ex_if (hj _) (hj _))))) (hj _)
theorem u64_in (a : Int) : 0 ≤ IntKind.u64.wrap a ∧ IntKind.u64.wrap a < 18446744073709551616 := by
 have h1 : IntKind.u64.wrap a = a % 18446744073709551616 := by
  unfold IntKind.wrap
  rfl
 rw [h1]
 omega
theorem num_f (a : Int) : ∃ v : Nat, selvedgeref01_Num.f (IntKind.u64.wrap a) = some (Sa.numB v) := ⟨_, by rw [selvedgeref01_Num.f, if_pos (u64_in a)]⟩
theorem sizes_le : ∀ l : List ByteArray, Sa.sizes l ≤ 9 * (l.map (fun s : ByteArray => s.size + 1)).sum
 | [] => Nat.le_refl _
 | a :: r => by
  have := sizes_le r
  simp only [Sa.sizes, List.map_cons, List.sum_cons]
  omega
theorem bytes7_ev (a b : Int) (l : List ByteArray) (hl : l.length ≤ 1048576) (hs : (l.map (fun s : ByteArray => s.size + 1)).sum ≤ 1048576) : ∃ r, Evk (fun k => selvedgeref07_Bytes.f k a b l) r ∧ r.1.size ≤ 9437300 := by
 obtain ⟨m, hm⟩ := may7_ev a b l hl
 obtain ⟨v, hv⟩ := num_f a
 obtain ⟨u, hu⟩ := num_f b
 have n1 := Sa.numB_le v
 have n2 := Sa.numB_le u
 have n3 := Sa.rowB_le l
 have n4 := sizes_le l
 have hr : selvedgeref01_Row.f l = some (Sa.rowB l) := by rw [selvedgeref01_Row.f, if_pos (by omega)]
 unfold selvedgeref07_Bytes.f
 cases m with
 | false => exact ⟨((⟨#[]⟩ : ByteArray), 1), Evk.bind hm (Evk.of_eq (Evk.ret _) (fun k => if_neg (by decide))), by show 0 ≤ 9437300; omega⟩
 | true =>
  refine ⟨((Sa.numB v ++ Sa.numB u) ++ Sa.rowB l, 0), Evk.bind hm (Evk.of_eq (Evk.ret _) (fun k => ?_)), ?_⟩
  ·
   rw [if_pos rfl, hv, hu, hr]
   simp only [Option.bind_some]
   rw [if_pos (by omega), if_pos (by rw [ByteArray.size_append]; omega)]
  ·
   rw [ByteArray.size_append, ByteArray.size_append]; omega
theorem bytes8_l (a b : Int) (c : List S129) (ps : List ByteArray) (d e : Int) (hc : c.length ≤ 1048576) (hcl : ∀ x ∈ c, x.f2.length ≤ 1048576 ∧ (x.f2.map (fun s : ByteArray => s.size + 1)).sum ≤ 1048576) (hps : (ps.map (fun s : ByteArray => s.size + 1)).sum ≤ 1048576) : ∀ (n i : Nat) (acc : List ByteArray), i + n = c.length → acc.length ≤ i → Sa.sizes acc ≤ i * 9437309 → ∃ r, Evk (fun k => selvedgeref08_Bytes.l0 k acc (i : Int) a b c ps d e) r ∧ r.1.size ≤ 20000000000000
 | 0, i, acc, h, ha, hz => by
  obtain ⟨v1, hv1⟩ := num_f a
  obtain ⟨v2, hv2⟩ := num_f b
  obtain ⟨v3, hv3⟩ := num_f d
  obtain ⟨v4, hv4⟩ := num_f e
  have n1 := Sa.numB_le v1
  have n2 := Sa.numB_le v2
  have n3 := Sa.numB_le v3
  have n4 := Sa.numB_le v4
  have m1 := Sa.rowB_le acc
  have m2 := Sa.rowB_le ps
  have m3 := sizes_le ps
  have hzz : Sa.sizes acc ≤ 1048576 * 9437309 := Nat.le_trans hz (Nat.mul_le_mul (by omega) (Nat.le_refl _))
  have hr1 : selvedgeref01_Row.f acc = some (Sa.rowB acc) := by rw [selvedgeref01_Row.f, if_pos (by omega)]
  have hr2 : selvedgeref01_Row.f ps = some (Sa.rowB ps) := by rw [selvedgeref01_Row.f, if_pos (by omega)]
  refine ⟨(((((Sa.numB v1 ++ Sa.numB v2) ++ Sa.rowB acc) ++ Sa.rowB ps) ++ Sa.numB v3) ++ Sa.numB v4, 0), Evk.step (Evk.ret _) (fun k => ?_), ?_⟩
  ·
   rw [selvedgeref08_Bytes.l0, if_neg (by omega), hv1, hv2, hv3, hv4, hr1, hr2]
   simp only [Option.bind_some, ByteArray.size_append]
   rw [if_pos (by omega), if_pos (by omega), if_pos (by omega), if_pos (by omega), if_pos (by omega)]
  ·
   simp only [ByteArray.size_append]; omega
 | n + 1, i, acc, h, ha, hz => by
  have hi : i < c.length := by omega
  have e1 : rd_T129 c (i : Int) = c[i] := by
   unfold rd_T129
   rw [Int.toNat_natCast, List.getD_eq_getElem?_getD, List.getElem?_eq_getElem hi]; rfl
  obtain ⟨h1, h2⟩ := hcl _ (List.getElem_mem hi)
  obtain ⟨q, hq, hqs⟩ := bytes7_ev (c[i]).f0 (c[i]).f1 (c[i]).f2 h1 h2
  have c1 : ((i : Int) < (c.length : Int)) = True := eq_true (by omega)
  have c2 : (0 ≤ (i : Int)) = True := eq_true (by omega)
  have c3 : (acc.length < 8796093022208) = True := eq_true (by omega)
  have hs2 : Sa.sizes (acc ++ [q.1]) ≤ (i + 1) * 9437309 := by
   rw [Sa.sizes_append]
   simp only [Sa.sizes]
   omega
  obtain ⟨r, g1, g2⟩ := bytes8_l a b c ps d e hc hcl hps n (i + 1) (acc ++ [q.1]) (by omega) (by rw [List.length_append]; simp; omega) hs2
  refine ⟨r, evk_succ ?_, g2⟩
  simp only [selvedgeref08_Bytes.l0, c1, c2, c3, if_true, e1, ws i (show i ≤ 4611686018427387000 by omega)]
  exact Evk.bind hq g1
theorem v129_sum : ∀ (l : List S129), l.length ≤ (l.map B129).sum ∧ ∀ x ∈ l, (x.f2.map (fun s : ByteArray => s.size + 1)).sum ≤ (l.map B129).sum
 | [] => ⟨Nat.le_refl _, fun x hx => by cases hx⟩
 | a :: r => by
  obtain ⟨h1, h2⟩ := v129_sum r
  have e : B129 a = 1 + 1 + ((a.f2.map (fun s : ByteArray => s.size + 1)).sum + 1) + 1 := rfl
  simp only [List.map_cons, List.sum_cons, List.length_cons]
  refine ⟨by omega, fun x hx => ?_⟩
  rcases List.mem_cons.1 hx with rfl | hx
  ·
   omega
  ·
   have := h2 x hx; omega
theorem dig_ok (nn : Int) (x : SE) (h : G37 x) (hB : B37 x ≤ 1048576) : DigOk nn x := by
 have e : B37 x = x.f0.size + 1 + B35 x.f1 + 1 := rfl
 have e' : B35 x.f1 = 1 + 1 + ((x.f1.f2.map B129).sum + 1) + ((x.f1.f3.map (fun s : ByteArray => s.size + 1)).sum + 1) + B33 x.f1.f4 + 1 := rfl
 obtain ⟨k1, k2⟩ := v129_sum x.f1.f2
 have k3 := strs_sum x.f1.f3
 have hcl : ∀ y ∈ x.f1.f2, y.f2.length ≤ 1048576 ∧ (y.f2.map (fun s : ByteArray => s.size + 1)).sum ≤ 1048576 := fun y hy => by
  have h1 := k2 y hy
  have h2 := strs_sum y.f2
  exact ⟨by omega, by omega⟩
 obtain ⟨m, hm⟩ := may8_ev x.f1.f0 x.f1.f1 x.f1.f2 x.f1.f3 (by omega) (fun y hy => (hcl y hy).1) (by omega) h.2.2.2.2.1.2 x.f1.f4.f0 x.f1.f4.f1 nn
 have hby : ∃ r, Evk (fun k => selvedgeref08_Bytes.f k x.f1.f0 x.f1.f1 x.f1.f2 x.f1.f3 x.f1.f4.f0 x.f1.f4.f1 nn) r ∧ r.1.size ≤ 20000000000000 := by
  unfold selvedgeref08_Bytes.f
  cases m with
  | false => exact ⟨((⟨#[]⟩ : ByteArray), 1), Evk.bind hm (Evk.of_eq (Evk.ret _) (fun k => if_neg (by decide))), by show 0 ≤ 20000000000000; omega⟩
  | true =>
   obtain ⟨r, g1, g2⟩ := bytes8_l x.f1.f0 x.f1.f1 x.f1.f2 x.f1.f3 x.f1.f4.f0 x.f1.f4.f1 (by omega) hcl (by omega) x.f1.f2.length 0 [] (by omega) (by simp) (by simp [Sa.sizes])
   exact ⟨r, Evk.bind hm (Evk.of_eq g1 (fun k => if_pos rfl)), g2⟩
 obtain ⟨r, g1, g2⟩ := hby
 unfold DigOk selvedgeref08_Digest.f
 by_cases hz : r.2 = 0
 ·
  have hsz : ((⟨#[118]⟩ : ByteArray) ++ r.1).size ≤ 140737488351232 := by
   rw [ByteArray.size_append]
   show 1 + r.1.size ≤ _
   omega
  refine ⟨_, Evk.bind g1 (Evk.of_eq (Evk.ret (Sm.sumB ((⟨#[118]⟩ : ByteArray) ++ r.1), (0 : Int))) (fun k => ?_))⟩
  rw [if_pos hz, if_pos (by omega), selvedgeref02_Sum.f, if_pos hsz]
  rfl
 ·
  exact ⟨_, Evk.bind g1 (Evk.of_eq (Evk.ret _) (fun k => if_neg hz))⟩
theorem ents_ps : ∀ (l : List SE), ∀ x ∈ l, x.f1.f3.length ≤ (l.map B37).sum
 | a :: r, x, hx => by
  have h3 := strs_sum a.f1.f3
  have e : B37 a = a.f0.size + 1 + B35 a.f1 + 1 := rfl
  have e' : B35 a.f1 = 1 + 1 + ((a.f1.f2.map B129).sum + 1) + ((a.f1.f3.map (fun s : ByteArray => s.size + 1)).sum + 1) + B33 a.f1.f4 + 1 := rfl
  simp only [List.map_cons, List.sum_cons]
  rcases List.mem_cons.1 hx with rfl | hx
  ·
   omega
  ·
   have := ents_ps r x hx; omega
theorem one_sum : ∀ (l : List SE), ∀ x ∈ l, B37 x ≤ (l.map B37).sum
 | a :: r, x, hx => by
  simp only [List.map_cons, List.sum_cons]
  rcases List.mem_cons.1 hx with rfl | hx
  ·
   omega
  ·
   have := one_sum r x hx; omega
theorem OrderTurns : selvedgelaw14_OrderTurns.Pure := by
 intro x0 dg l2 hg0 hg1 hg2 hsum
 have e0 : B24 x0 = 1 + 1 + ((x0.f2.map B37).sum + 1) + 1 := rfl
 have hs2 := strs_sum l2
 dsimp only at hsum
 have h2 : (x0.f2.map B37).sum ≤ 1048576 := by omega
 have h1 : x0.f2.length ≤ 1048576 := Nat.le_trans (ents_sum x0.f2).1 h2
 have hd : l2.length ≤ 1048576 := by omega
 have hg : ∀ x ∈ x0.f2, G37 x := hg0.2.2.2
 obtain ⟨b, hb, hsm⟩ := small_ev x0.f2 h1 x0.f0 x0.f1
 refine Evk.get (f := fun k => selvedgelaw14_OrderTurns.f k x0.f0 x0.f1 x0.f2 dg l2) ?_
 refine Evk.bind shown_ev ?_
 refine Evk.bind hb ?_
 refine Evk.of_eq ?_ (fun k => if_pos rfl)
 cases b with
 | false => exact Evk.step (Evk.ret true) (fun k => by rw [selvedgelaw14_OrderTurns.j0]; rfl)
 | true =>
  obtain ⟨s1, s2, s3⟩ := hsm rfl
  obtain ⟨c, hc, hasc⟩ := right_ev x0.f0 x0.f1 x0.f2 h1 (fun x hx => dig_ok x0.f0 x (hg x hx) (by have := one_sum x0.f2 x hx; omega)) (fun x hx => miss_ev x0.f0 x0.f1 x0.f2 h1 x (by have := ents_ps x0.f2 x hx; omega))
  have hfind := rfind_l x0.f2 h1 x0.f0 x0.f1 dg x0.f2.length 0 (by omega)
  rw [List.drop_zero] at hfind
  have j1t : ∀ (y0 : ByteArray) (y1 y2 : Int) (y3 : List S129) (y4 : List ByteArray) (y5 y6 : Int), Evk (fun k => selvedgelaw14_OrderTurns.j1 k dg l2 true x0.f0 x0.f1 x0.f2 y0 y1 y2 y3 y4 y5 y6) true := fun _ _ _ _ _ _ _ => Evk.step (Evk.ret true) (fun k => by rw [selvedgelaw14_OrderTurns.j1, if_pos rfl])
  refine evk_succ ?_
  simp only [selvedgelaw14_OrderTurns.j0, Bool.not_true, Bool.false_eq_true, if_false]
  refine Evk.bind hc ?_
  refine Evk.bind (Evk.of_eq hfind (fun k => rfl) : Evk (fun k => selvedgeref11_Find.f k x0.f0 x0.f1 x0.f2 dg) _) ?_
  cases c with
  | false => exact Evk.of_eq (j1t _ _ _ _ _ _ _) (fun k => if_neg (by decide))
  | true =>
   refine Evk.of_eq ?_ (fun k => if_pos rfl)
   cases hf : x0.f2.find? (fun x => x.f0.toList == dg.toList) with
   | none => exact j1t _ _ _ _ _ _ _
   | some t =>
    dsimp only
    have htb := s2 t (List.mem_of_find?_eq_some hf)
    have htd : t.f0 = dg := Si.ba_ext (by simpa using List.find?_some hf)
    have hp := hasc rfl
    have ew := w64 (t.f1.f1 - 12) (by omega) (by omega)
    have hbe := behind_ev x0.f2 h1 h2 hg s2 x0.f0 x0.f1 t.f0 t.f1.f0 t.f1.f1 t.f1.f2 t.f1.f3 t.f1.f4.f0 t.f1.f4.f1 l2 hd
    rw [ew, htd] at hbe
    refine evk_succ ?_
    simp only [selvedgelaw14_OrderTurns.j1, Bool.not_true, Bool.false_eq_true, if_false, htd]
    refine Evk.bind hbe ?_
    have hsub := pastL_sub x0.f2 dg (t.f1.f1 - 12)
    have hlen : (newL l2 (pastL x0.f2 dg (t.f1.f1 - 12))).length ≤ 1048576 := by
     have := List.length_filter_le (fun x : SE => !l2.contains x.f0) (pastL x0.f2 dg (t.f1.f1 - 12))
     have := hsub.length_le
     unfold newL; omega
    have hpp : (newL l2 (pastL x0.f2 dg (t.f1.f1 - 12))).Pairwise aheadE := (hp.sublist hsub).filter _
    exact turns_l dg l2 hd _ hlen hpp (fun hn => top_last x0.f2 s2 s3 hp dg t hf l2 hn) ((newL l2 (pastL x0.f2 dg (t.f1.f1 - 12))).length - 1) 1 (by omega) (by omega)
end Go.Proofs.Ytcbfnmabckjijaa.Pure
