import Derived.Test.YtcbfnmabckjijaaArgTuskStops
import Derived.Test.YtcbfnmabckjijaaVTuskStopsEk
import Derived.Test.YtcbfnmabckjijaaVTuskStopsSz
import Derived.IntWalk
namespace Go.Proofs.Ytcbfnmabckjijaa.Pure
open Go.RowKit Go.Proofs.Ytcbfnmabckjijaa.PTuskStops Go.Proofs.YtcbfnmabckjijaaW.PrintWords Go.Proofs.YtcbfnmabckjijaaW.PrintLast
open Go.Proofs.Ytcbfnmabckjijaa.Ek
open Go.IntWalk (wrap64_in)
set_option linter.unusedVariables false
set_option linter.unusedSimpArgs false
theorem evk_succ {α : Type} {f : Nat → Option α} {v : α} (h : Evk (fun k => f (k + 1)) v) : Evk f v := by
 obtain ⟨k0, h0⟩ := h
 refine ⟨k0 + 1, fun k hk => ?_⟩
 obtain ⟨k', rfl⟩ : ∃ k', k = k' + 1 := ⟨k - 1, by omega⟩
 exact h0 k' (by omega)
theorem w64 (x : Int) (h : -4611686018427387904 ≤ x) (h' : x ≤ 4611686018427387904) : wrap64 x = x := Go.IntWalk.wrap64_in x (by omega)
theorem ws (i : Nat) (h : i ≤ 4611686018427387000) : wrap64 ((i : Int) + 1) = ((i + 1 : Nat) : Int) := by rw [w64 _ (by omega) (by omega)]; rfl
theorem rdOf_eq (l : List ByteArray) (i : Nat) (h : i < l.length) : rdOf ByteArray.empty l (i : Int) = l[i] := by
 unfold rdOf
 rw [Int.toNat_natCast, List.getD_eq_getElem?_getD, List.getElem?_eq_getElem h]; rfl
theorem ba_beq (a b : ByteArray) : (a == b) = decide (a.toList = b.toList) := by
 by_cases h : a.toList = b.toList
 ·
  have e := Si.ba_ext h
  subst e
  rw [decide_eq_true h]
  exact beq_self_eq_true a
 ·
  rw [decide_eq_false h]
  exact beq_eq_false_iff_ne.2 (fun e => h (by rw [e]))
theorem index_l (l : List ByteArray) (hl : l.length ≤ 1099511627776) (s : ByteArray) : ∀ (n i : Nat), i + n = l.length → ∃ r : Int, Evk (fun k => Fx.l0 k l s (l.length : Int) (i : Int)) r ∧ decide (r ≥ 0) = (l.drop i).contains s
 | 0, i, h => ⟨-1, Evk.step (Evk.ret (-1)) (fun k => by rw [Fx.l0, if_neg (by omega)]), by rw [List.drop_eq_nil_of_le (by omega)]; rfl⟩
 | n + 1, i, h => by
  have hi : i < l.length := by omega
  have e := rdOf_eq l i hi
  rw [List.drop_eq_getElem_cons hi, List.contains_cons, ba_beq]
  by_cases hq : s.toList = (l[i]).toList
  ·
   refine ⟨(i : Int), Evk.step (Evk.ret (i : Int)) (fun k => by rw [Fx.l0, if_pos (by omega), if_pos (by omega), if_pos (by omega), e, if_pos hq]), ?_⟩
   rw [decide_eq_true hq, Bool.true_or]
   exact decide_eq_true (by omega)
  ·
   obtain ⟨r, h1, h2⟩ := index_l l hl s n (i + 1) (by omega)
   refine ⟨r, Evk.step h1 (fun k => by rw [Fx.l0, if_pos (by omega), if_pos (by omega), if_pos (by omega), e, if_neg hq, ws i (by omega)]), ?_⟩
   rw [decide_eq_false hq, Bool.false_or]
   exact h2
theorem contains_ev (l : List ByteArray) (hl : l.length ≤ 1099511627776) (s : ByteArray) : Evk (fun k => Gf.f k l s) (l.contains s) := by
 obtain ⟨r, h1, h2⟩ := index_l l hl s l.length 0 (by omega)
 rw [List.drop_zero] at h2
 refine Evk.bind (f := fun k => Fx.f k l s) (g := fun _ t => some (decide (t ≥ 0))) h1 ?_
 rw [h2]
 exact Evk.ret _
def mayC (n : Int) : Bool := decide (4 ≤ n ∧ n ≤ 64 ∧ n % 3 = 1)
theorem c_may (n : Int) : Fr.f n = some (mayC n) := by
 unfold Fr.f mayC
 by_cases h1 : n ≥ 4
 ·
  by_cases h2 : n ≤ 64
  ·
   rw [if_pos h1, if_pos h2, Int.tmod_eq_emod_of_nonneg (by omega)]
   congr 1
   rw [Bool.eq_iff_iff, beq_iff_eq, decide_eq_true_iff]
   omega
  ·
   rw [if_pos h1, if_neg h2, decide_eq_false (by omega)]
 ·
  rw [if_neg h1, decide_eq_false (by omega)]
theorem mayC_of {n : Int} (h : mayC n = true) : 4 ≤ n ∧ n ≤ 64 ∧ n % 3 = 1 := of_decide_eq_true h
def weakC (n : Int) : Nat := if mayC n = true then ((n - 1) / 3).toNat + 1 else 0
theorem c_weak (n : Int) : Fs.f n = some (weakC n : Int) := by
 unfold Fs.f Gb.f weakC
 rw [c_may]
 simp only [Option.bind_some]
 by_cases h : mayC n = true
 ·
  have := mayC_of h
  rw [if_pos h, if_pos h, if_pos h, Option.bind_some, wrap64_in (n - 1) (by omega), Int.tdiv_eq_ediv_of_nonneg (by omega), wrap64_in ((n - 1) / 3) (by omega), wrap64_in _ (by omega)]
  congr 1
  omega
 ·
  rw [if_neg h, if_neg h]
  rfl
theorem c_gm (a b : Int) : Fy.f a b = some (decide (Gm.Ok (a, b))) := by
 have e : Gm.Ok (a, b) ↔ 0 ≤ a ∧ a < 10007 ∧ 0 ≤ b ∧ b < 10007 := Iff.rfl
 unfold Fy.f
 by_cases h1 : a ≥ 0
 ·
  by_cases h2 : a < 10007
  ·
   by_cases h3 : b ≥ 0
   ·
    rw [if_pos h1, if_pos h2, if_pos h3, Option.some.injEq, decide_eq_decide, e]
    omega
   ·
    rw [if_pos h1, if_pos h2, if_neg h3, decide_eq_false (fun h => by rw [e] at h; omega)]
  ·
   rw [if_pos h1, if_neg h2, decide_eq_false (fun h => by rw [e] at h; omega)]
 ·
  rw [if_neg h1, decide_eq_false (fun h => by rw [e] at h; omega)]
def leadC (x : Gm.E) (n : Int) : Int := if mayC n = true ∧ Gm.Ok x then 1 + (x.1 * 10007 + x.2) % n else 0
theorem lead_sum (a b n : Int) (hn : mayC n = true) (h : Gm.Ok (a, b)) : wrap64 (1 + Int.tmod (wrap64 (wrap64 (a * 10007) + b)) n) = 1 + (a * 10007 + b) % n := by
 have hm := mayC_of hn
 obtain ⟨h1, h2, h3, h4⟩ : 0 ≤ a ∧ a < 10007 ∧ 0 ≤ b ∧ b < 10007 := h
 have m1 := Int.emod_nonneg (a * 10007 + b) (show n ≠ 0 by omega)
 have m2 := Int.emod_lt_of_pos (a * 10007 + b) (show 0 < n by omega)
 rw [wrap64_in (a * 10007) (by omega), wrap64_in (a * 10007 + b) (by omega), Int.tmod_eq_emod_of_nonneg (by omega), wrap64_in _ (by omega)]
theorem c_lead (a b n : Int) : Gc.f a b n = some (leadC (a, b) n) := by
 unfold Gc.f leadC
 rw [c_may, Option.bind_some]
 by_cases hn : mayC n = true
 ·
  have hm := mayC_of hn
  rw [if_pos hn, c_gm, Option.bind_some]
  by_cases h : Gm.Ok (a, b)
  ·
   rw [if_pos (decide_eq_true h), if_neg (by omega), if_pos ⟨hn, h⟩, lead_sum a b n hn h]
  ·
   rw [if_neg (by simpa using h), if_neg (fun x => h x.2)]
 ·
  rw [if_neg hn, if_neg (fun x => hn x.1)]
def shC (x : S37) : S111 := ⟨x.f1.f0, ⟨x.f1.f4.f0, x.f1.f4.f1⟩⟩
def roundC (L : List S37) (r : Int) : List S37 := L.filter fun x => decide (x.f1.f1 = r)
theorem roundC_len (L : List S37) (r : Int) : (roundC L r).length ≤ L.length := List.length_filter_le _ _
theorem roundC_snoc (L : List S37) (r : Int) (x : S37) : roundC (L ++ [x]) r = if x.f1.f1 = r then roundC L r ++ [x] else roundC L r := by
 unfold roundC
 by_cases h : x.f1.f1 = r <;> simp [List.filter_append, h]
theorem rd59 (L : List S37) {i : Nat} (h : i < L.length) : rd_T37 L (i : Int) = L[i] := by
 unfold rd_T37
 rw [Int.toNat_natCast, List.getD_eq_getElem?_getD, List.getElem?_eq_getElem h]
 rfl
theorem c_round_l (L : List S37) (r : Int) (hl : L.length ≤ 1000000) : ∀ (m i : Nat), i + m = L.length → Evk (fun k => Fm.l0 k r (roundC (L.take i) r) L (L.length : Int) (i : Int)) (roundC L r)
 | 0, i, hi => by
  refine Evk.step (g := fun _ => some (roundC L r)) (Evk.const fun _ => rfl) fun k => ?_
  rw [Fm.l0, if_neg (by omega), List.take_of_length_le (by omega)]
 | m + 1, i, hi => by
  have hlt : i < L.length := by omega
  have ih := c_round_l L r hl m (i + 1) (by omega)
  have w1 : wrap64 ((i : Int) + 1) = ((i + 1 : Nat) : Int) := by rw [wrap64_in _ (by omega)]; omega
  rw [List.take_succ_eq_append_getElem hlt, roundC_snoc] at ih
  refine ih.step fun k => ?_
  rw [Fm.l0, if_pos (by omega), if_pos (by omega), if_pos (by omega), rd59 L hlt, w1]
  by_cases h : L[i].f1.f1 = r
  ·
   rw [if_pos h, if_pos h, if_pos (by have := roundC_len (L.take i) r; rw [List.length_take] at this; omega)]
  ·
   rw [if_neg h, if_neg h]
theorem c_round (L : List S37) (n low r : Int) (hl : L.length ≤ 1000000) : Evk (fun k => Fm.f k n low L r) (roundC L r) :=
 (c_round_l L r hl L.length 0 (by omega)).of_eq fun k => by unfold Fm.f; rfl
def openC (s : List S111) (n : Int) : Int × Int := if (Fl.openE (eS s) (Fl.wtE (eS s))).2 = 0 then (leadC (Fl.openE (eS s) (Fl.wtE (eS s))).1 n, 0) else (0, (Fl.openE (eS s) (Fl.wtE (eS s))).2)
def revC (n : Int) (L : List S37) (wave : Int) : Int × Int :=
 if wave < 1 ∨ 1048576 < wave ∨ mayC n = false then (0, 1)
 else if (roundC L (3 * wave)).length < weakC n then (0, 12)
 else openC (((roundC L (3 * wave)).take (weakC n)).map shC) n
theorem c_rev_l (Y L : List S37) (n low : Int) (hl : Y.length ≤ 1000000) : ∀ (m i : Nat), i + m = Y.length → Evk (fun k => F8.l0 k ((Y.take i).map shC) Y (Y.length : Int) (i : Int) n low L) (openC (Y.map shC) n)
 | 0, i, hi => by
  refine Evk.step (g := fun _ => some (openC (Y.map shC) n)) (Evk.const fun _ => rfl) fun k => ?_
  rw [F8.l0, if_neg (by omega), List.take_of_length_le (by omega)]
  unfold Gg.f openC
  rw [Option.bind_some]
  simp only
  by_cases h : (Fl.openE (eS (Y.map shC)) (Fl.wtE (eS (Y.map shC)))).2 = 0
  ·
   rw [if_pos h, if_pos h, c_lead]
   rfl
  ·
   rw [if_neg h, if_neg h]
 | m + 1, i, hi => by
  have hlt : i < Y.length := by omega
  have ih := c_rev_l Y L n low hl m (i + 1) (by omega)
  have w1 : wrap64 ((i : Int) + 1) = ((i + 1 : Nat) : Int) := by rw [wrap64_in _ (by omega)]; omega
  rw [List.take_succ_eq_append_getElem hlt, List.map_append] at ih
  refine ih.step fun k => ?_
  rw [F8.l0, if_pos (by omega), if_pos (by omega), if_pos (by omega), if_pos (by rw [List.length_map, List.length_take]; omega), rd59 Y hlt, w1]
  rfl
theorem c_rev (L : List S37) (n low wave : Int) (hl : L.length ≤ 1000000) : Evk (fun k => F8.f k n low L wave) (revC n L wave) := by
 have hno : Evk (fun k => F8.j0 k wave true n low L) (0, 1) := Evk.step (g := fun _ => some (0, 1)) (Evk.const fun _ => rfl) fun k => by rw [F8.j0, if_pos rfl]
 unfold revC
 by_cases h1 : wave < 1
 ·
  rw [if_pos (.inl h1)]
  exact hno.of_eq fun k => by unfold F8.f; rw [if_pos h1]
 ·
  by_cases h2 : 1048576 < wave
  ·
   rw [if_pos (.inr (.inl h2))]
   exact hno.of_eq fun k => by unfold F8.f; rw [if_neg h1, if_pos h2]
  ·
   cases hn : mayC n with
   | false =>
    rw [if_pos (.inr (.inr rfl))]
    exact hno.of_eq fun k => by unfold F8.f; rw [if_neg h1, if_neg h2, c_may, Option.bind_some, hn]; rfl
   | true =>
    rw [if_neg (by rintro (h | h | h) <;> first | omega | cases h)]
    have hr := c_round L n low (3 * wave) hl
    have hj : Evk (fun k => F8.j0 k wave false n low L) (if (roundC L (3 * wave)).length < weakC n then (0, 12) else openC (((roundC L (3 * wave)).take (weakC n)).map shC) n) := by
     refine Evk.step (hr.bind (g := fun k t142 => ((Fs.f n).bind fun t145 => (if (t142.length : Int) < t145 then (some (0, 12)) else ((Fs.f n).bind fun t146 => (if 0 ≤ t146 then (if t146 ≤ (t142.length : Int) then ((some (t142.take (t146 : Int).toNat : List (S37))).bind fun y147 => (F8.l0 k ([] : List (S111)) y147 (y147.length : Int) 0 n low L)) else (none)) else (none)))))) ?_) fun k => ?_
     ·
      by_cases h3 : (roundC L (3 * wave)).length < weakC n
      ·
       rw [if_pos h3]
       exact Evk.const fun k => by rw [c_weak, Option.bind_some, if_pos (by omega)]
      ·
       rw [if_neg h3]
       have hR := roundC_len L (3 * wave)
       refine (c_rev_l ((roundC L (3 * wave)).take (weakC n)) L n low (by rw [List.length_take]; omega) _ 0 (Nat.zero_add _)).of_eq fun k => ?_
       rw [c_weak, Option.bind_some, if_neg (by omega), Option.bind_some, if_pos (by omega), if_pos (by omega), Option.bind_some, Int.toNat_natCast]
       rfl
     ·
      rw [F8.j0, if_neg (by decide), wrap64_in _ (by omega)]
    exact hj.of_eq fun k => by unfold F8.f; rw [if_neg h1, if_neg h2, c_may, Option.bind_some, hn]; rfl
theorem strs_sum : ∀ l : List ByteArray, l.length ≤ (l.map (fun s : ByteArray => s.size + 1)).sum
 | [] => Nat.le_refl _
 | a :: r => by
  have := strs_sum r
  simp only [List.map_cons, List.sum_cons, List.length_cons]; omega
theorem ents_sum : ∀ l : List SE, l.length ≤ (l.map B37).sum ∧ ((l.map toDX).map (fun x => x.ps.length)).sum ≤ (l.map B37).sum
 | [] => ⟨Nat.le_refl _, Nat.le_refl _⟩
 | a :: r => by
  obtain ⟨h1, h2⟩ := ents_sum r
  have h3 := strs_sum a.f1.f3
  have e : B37 a = a.f0.size + 1 + B35 a.f1 + 1 := rfl
  have e' : B35 a.f1 = 1 + 1 + ((a.f1.f2.map B129).sum + 1) + ((a.f1.f3.map (fun s : ByteArray => s.size + 1)).sum + 1) + B33 a.f1.f4 + 1 := rfl
  have e3 : (toDX a).ps = a.f1.f3 := rfl
  simp only [List.map_cons, List.sum_cons, List.length_cons, e3]
  exact ⟨by omega, by omega⟩
theorem okX_of (l : List SE) (h1 : l.length ≤ 1048576) (h2 : (l.map B37).sum ≤ 1048576) (hg : ∀ x ∈ l, G37 x) : Si.okX (l.map toDX) = true := by
 refine (Si.okX_iff _).2 ⟨by rw [List.length_map]; omega, fun x hx => ?_, by have := (ents_sum l).2; omega⟩
 obtain ⟨y, hy, rfl⟩ := List.mem_map.1 hx
 obtain ⟨g0, g1⟩ := hg y hy
 exact ⟨g0, g1.2.2.2.1.2, g1.2.1⟩
def fineB (l : List SE) : Bool := Si.okX (l.map toDX) && decide (l.length ≤ 60) && l.all (fun x => decide (x.f1.f1 ≤ 60))
structure Fine13 (l : List SE) : Prop where
 few : l.length ≤ 60
 ok : Si.okX (l.map toDX) = true
 ro : ∀ x ∈ l, x.f1.f1 ≤ 60
theorem fine_of (l : List SE) (h : fineB l = true) : Fine13 l := by
 unfold fineB at h
 rw [Bool.and_eq_true, Bool.and_eq_true, List.all_eq_true] at h
 exact ⟨of_decide_eq_true h.1.2, h.1.1, fun x hx => of_decide_eq_true (h.2 x hx)⟩
theorem sum_ge (f : SE → Nat) : ∀ (l : List SE), ∀ x ∈ l, f x ≤ (l.map f).sum
 | a :: r, x, h => by
  rw [List.map_cons, List.sum_cons]
  rcases List.mem_cons.1 h with rfl | h
  ·
   omega
  ·
   have := sum_ge f r x h; omega
theorem Fine13.dg {l : List SE} (h : Fine13 l) : ∀ x ∈ l, x.f0.size ≤ 140737488351232 := fun x hx => (((Si.okX_iff _).1 h.ok).2.1 _ (List.mem_map.2 ⟨x, hx, rfl⟩)).1
theorem Fine13.wf {l : List SE} (h : Fine13 l) : ∀ x ∈ l, -9223372036854775808 ≤ x.f1.f1 := fun x hx => by
 have := (((Si.okX_iff _).1 h.ok).2.1 _ (List.mem_map.2 ⟨x, hx, rfl⟩)).2.2
 have e : (toDX x).ro = x.f1.f1 := rfl
 rw [e] at this
 simp [Lit.wf, IntKind.min, IntKind.max, IntKind.signed, IntKind.bits] at this
 omega
theorem Fine13.ps {l : List SE} (h : Fine13 l) : ∀ x ∈ l, x.f1.f3.length ≤ 1099511627776 := fun x hx => by
 have h1 := ((Si.okX_iff _).1 h.ok).2.2
 rw [List.map_map] at h1
 exact Nat.le_trans (sum_ge (fun x => x.f1.f3.length) l x hx) h1
theorem cnt_lt (l : List SE) (r : Int) (x : SE) (hx : x ∈ l) (hr : x.f1.f1 = r) : (l.filter (fun y => decide (y.f1.f1 ≤ r - 1))).length + 1 ≤ (l.filter (fun y => decide (y.f1.f1 ≤ r))).length := by
 induction l with
 | nil => cases hx
 | cons a t ih =>
  rw [List.filter_cons, List.filter_cons]
  rcases List.mem_cons.1 hx with rfl | hx
  ·
   rw [if_neg (by simp; omega), if_pos (by simp; omega), List.length_cons]
   have : ∀ t : List SE, (t.filter (fun y => decide (y.f1.f1 ≤ r - 1))).length ≤ (t.filter (fun y => decide (y.f1.f1 ≤ r))).length := fun t => by
    induction t with
    | nil => exact Nat.le_refl _
    | cons b u ihu =>
     rw [List.filter_cons, List.filter_cons]
     by_cases h1 : b.f1.f1 ≤ r - 1
     ·
      rw [if_pos (by simpa using h1), if_pos (by simp; omega)]; simp; exact ihu
     ·
      rw [if_neg (by simpa using h1)]
      split
      ·
       simp only [List.length_cons]; omega
      ·
       exact ihu
   have := this t
   omega
  ·
   have := ih hx
   by_cases h1 : a.f1.f1 ≤ r - 1
   ·
    rw [if_pos (by simpa using h1), if_pos (by simp; omega)]; simp only [List.length_cons]; omega
   ·
    rw [if_neg (by simpa using h1)]
    split
    ·
     simp only [List.length_cons]; omega
    ·
     exact this
theorem down13 {l : List SE} (hf : Fine13 l) : ∀ (m : Nat) (r : Int), (l.filter (fun y => decide (y.f1.f1 ≤ r))).length + 2 ≤ m → -9223372036854775808 ≤ r → r ≤ 60 → ∃ q, Si.downO (Si.roundX (l.map toDX)) m r = some q
 | 0, r, h, _, _ => by omega
 | m + 1, r, h, h1, h2 => by
  by_cases hz : (Si.roundX (l.map toDX) r).length = 0
  ·
   exact ⟨[], by rw [Si.downO, if_pos hz]⟩
  ·
   rw [filter_map_dx, List.length_map] at hz
   obtain ⟨x, hx⟩ := List.exists_mem_of_length_pos (Nat.pos_of_ne_zero hz)
   have hm := List.mem_filter.1 hx
   have e : x.f1.f1 = r := by simpa using hm.2
   have hc := cnt_lt l r x hm.1 e
   have hz' : ¬ (Si.roundX (l.map toDX) r).length = 0 := by rw [filter_map_dx, List.length_map]; exact hz
   by_cases hr : -9223372036854775808 < r
   ·
    obtain ⟨q, hq⟩ := down13 hf m (r - 1) (by omega) (by omega) (by omega)
    exact ⟨r :: q, by rw [Si.downO, if_neg hz', Go.IntWalk.wrap64_in (r - 1) (by omega), hq]; rfl⟩
   ·
    have e2 : r = -9223372036854775808 := by omega
    subst e2
    have e3 : wrap64 (-9223372036854775808 - 1) = 9223372036854775807 := by decide +kernel
    obtain ⟨m', rfl⟩ : ∃ m', m = m' + 1 := ⟨m - 1, by omega⟩
    have he : (Si.roundX (l.map toDX) 9223372036854775807).length = 0 := by
     rw [filter_map_dx, List.length_map, List.length_eq_zero_iff, List.filter_eq_nil_iff]
     intro y hy
     have := hf.ro y hy
     simp; omega
    exact ⟨[-9223372036854775808], by rw [Si.downO, if_neg hz', e3, Si.downO, if_pos he]; rfl⟩
theorem path_some {l : List SE} (hf : Fine13 l) (a b : Int) (x y : ByteArray) (hy : y.size ≤ 140737488351232) : ∃ t, G8.f a b l x y = some t := by
 unfold G8.f
 rw [if_pos ⟨hf.ok, hy⟩]
 unfold Si.innX
 rw [find_map_dx]
 cases hq : l.find? (fun z => z.f0.toList == x.toList) with
 | none => exact ⟨_, rfl⟩
 | some t =>
  have ht := List.mem_of_find?_eq_some hq
  have hl := List.length_filter_le (fun y : SE => decide (y.f1.f1 ≤ t.f1.f1)) l
  have := hf.few
  obtain ⟨q, hq⟩ := down13 hf 70 t.f1.f1 (by omega) (hf.wf t ht) (hf.ro t ht)
  dsimp only [Option.map]
  rw [show (toDX t).ro = t.f1.f1 from rfl, hq]
  exact ⟨_, rfl⟩
theorem wave_f (r : Int) (h : r ≤ 60) : ∃ t, Gh.f r = some t ∧ 0 ≤ t ∧ t ≤ 20 := by
 unfold Gh.f
 by_cases h1 : r < 1
 ·
  exact ⟨0, by rw [if_pos h1], by omega, by omega⟩
 ·
  refine ⟨(r - 1) / 3 + 1, ?_, by omega, by omega⟩
  rw [if_neg h1, w64 (r - 1) (by omega) (by omega), Int.tdiv_eq_ediv_of_nonneg (by omega), w64 ((r - 1) / 3) (by omega) (by omega), w64 _ (by omega) (by omega)]
theorem top_l {l : List SE} (hf : Fine13 l) : ∀ (n i : Nat) (T : Int), i + n = l.length → 0 ≤ T → T ≤ 20 → ∃ T', Evk (fun k => Fa.l0 k T l (l.length : Int) (i : Int)) T' ∧ 0 ≤ T' ∧ T' ≤ 20
 | 0, i, T, h, h0, h1 => ⟨T, Evk.step (Evk.ret T) (fun k => by rw [Fa.l0, if_neg (by omega)]), h0, h1⟩
 | n + 1, i, T, h, h0, h1 => by
  have hi : i < l.length := by omega
  have hl := hf.few
  obtain ⟨t, ht, t0, t1⟩ := wave_f (l[i]).f1.f1 (hf.ro _ (List.getElem_mem hi))
  have hm : 0 ≤ mx T t ∧ mx T t ≤ 20 := by unfold mx; split <;> omega
  obtain ⟨T', h2, h3⟩ := top_l hf n (i + 1) (mx T t) (by omega) hm.1 hm.2
  exact ⟨T', Evk.step h2 (fun k => by rw [Fa.l0, if_pos (by omega), if_pos (by omega), if_pos (by omega), rdE_eq l i hi, ht, Option.bind_some, ws i (by omega)]), h3⟩
theorem top_ev {l : List SE} (hf : Fine13 l) (a b : Int) : ∃ T, Evk (fun k => Fa.f k a b l) T ∧ 0 ≤ T ∧ T ≤ 20 := by
 obtain ⟨T, h, h1⟩ := top_l hf l.length 0 0 (by omega) (by omega) (by omega)
 exact ⟨T, Evk.of_eq h (fun k => by unfold Fa.f; rfl), h1⟩
def cntP (m : List SE) (dg : ByteArray) : Nat := (m.filter (fun y => y.f1.f3.contains dg)).length
theorem support_l (m : List SE) (hm : m.length ≤ 60) (hp : ∀ x ∈ m, x.f1.f3.length ≤ 1099511627776) (dg : ByteArray) (g1 g2 : Int) (g3 : List S129) (g4 : List ByteArray) (g5 g6 : Int) : ∀ (n i : Nat) (s : Int), i + n = m.length → 0 ≤ s → s ≤ i → Evk (fun k => Fq.l0 k s m (m.length : Int) (i : Int) dg g1 g2 g3 g4 g5 g6) (s + (cntP (m.drop i) dg : Int))
 | 0, i, s, h, h0, h1 => by
  rw [List.drop_eq_nil_of_le (by omega)]
  refine Evk.step (Evk.ret _) (fun k => ?_)
  rw [Fq.l0, if_neg (by omega)]
  simp [cntP]
 | n + 1, i, s, h, h0, h1 => by
  have hi : i < m.length := by omega
  have hc := contains_ev (m[i]).f1.f3 (hp _ (List.getElem_mem hi)) dg
  rw [List.drop_eq_getElem_cons hi]
  unfold cntP
  rw [List.filter_cons]
  refine evk_succ ?_
  have c1 : ((i : Int) < (m.length : Int)) = True := eq_true (by omega)
  have c2 : (0 ≤ (i : Int)) = True := eq_true (by omega)
  simp only [Fq.l0, c1, c2, if_true, rdE_eq m i hi]
  refine Evk.bind hc ?_
  cases hb : (m[i]).f1.f3.contains dg with
  | true =>
   have ih := support_l m hm hp dg g1 g2 g3 g4 g5 g6 n (i + 1) (s + 1) (by omega) (by omega) (by omega)
   refine Evk.of_eq ?_ (fun k => if_pos rfl)
   rw [if_pos rfl, List.length_cons, ws i (by omega), w64 (s + 1) (by omega) (by omega)]
   have e : s + ((List.filter (fun y => y.f1.f3.contains dg) (m.drop (i + 1))).length + 1 : Nat) = s + 1 + (cntP (m.drop (i + 1)) dg : Int) := by unfold cntP; omega
   rw [e]
   exact ih
  | false =>
   have ih := support_l m hm hp dg g1 g2 g3 g4 g5 g6 n (i + 1) s (by omega) (by omega) (by omega)
   refine Evk.of_eq ?_ (fun k => if_neg (by decide))
   rw [if_neg (by decide), ws i (by omega)]
   exact ih
def suppC (l : List SE) (dg : ByteArray) (ro : Int) : Nat := cntP (roundC l (wrap64 (ro + 1))) dg
theorem support_ev {l : List SE} (hf : Fine13 l) (a b : Int) (dg : ByteArray) (au ro : Int) (g3 : List S129) (g4 : List ByteArray) (g5 g6 : Int) : Evk (fun k => Fq.f k a b l dg au ro g3 g4 g5 g6) (suppC l dg ro : Int) := by
 have hl := hf.few
 have hr := roundC_len l (wrap64 (ro + 1))
 refine Evk.of_eq (Evk.bind (c_round l a b (wrap64 (ro + 1)) (by omega)) ?_) (fun k => by unfold Fq.f; rfl)
 have h := support_l (roundC l (wrap64 (ro + 1))) (by omega) (fun x hx => hf.ps x (List.mem_filter.1 hx).1) dg au ro g3 g4 g5 g6 _ 0 0 (Nat.zero_add _) (by omega) (by omega)
 rw [List.drop_zero, Int.zero_add] at h
 exact h
abbrev RE := ByteArray × Int × Int × List S129 × List ByteArray × Int × Int × Int
abbrev err (r : RE) : Int := r.2.2.2.2.2.2.2
theorem first_ev {l : List SE} (hf : Fine13 l) (a b w : Int) : ∃ r : RE, Evk (fun k => G3.f k a b l w) r ∧ r.1.size ≤ 140737488351232 ∧ ∀ who, revC a l w = (who, 0) → ∀ x, l.find? (fun x => x.f1.f0 == who && x.f1.f1 == wrap64 (wrap64 (3 * w) - 2)) = some x → r = (x.f0, x.f1.f0, x.f1.f1, x.f1.f2, x.f1.f3, x.f1.f4.f0, x.f1.f4.f1, 0) := by
 have hl := hf.few
 have hrev := c_rev l a b w (by omega)
 generalize revC a l w = v at hrev
 obtain ⟨who, e⟩ := v
 by_cases he : e = 0
 ·
  subst he
  cases hb : l.find? (fun x => x.f1.f0 == who && x.f1.f1 == wrap64 (wrap64 (3 * w) - 2)) with
  | some x =>
   refine ⟨(x.f0, x.f1.f0, x.f1.f1, x.f1.f2, x.f1.f3, x.f1.f4.f0, x.f1.f4.f1, 0), ?_, hf.dg x (List.mem_of_find?_eq_some hb), fun who' hw y hy => ?_⟩
   ·
    unfold G3.f
    refine Evk.bind hrev (Evk.of_eq ?_ (fun k => if_pos rfl))
    unfold G7.f
    refine Evk.const (fun k => ?_)
    rw [hb]
    rfl
   ·
    cases hw
    rw [hb] at hy
    cases hy
    rfl
  | none =>
   refine ⟨((⟨#[]⟩ : ByteArray), 0, 0, [], [], 0, 0, 7), ?_, by decide, fun who' hw y hy => ?_⟩
   ·
    unfold G3.f
    refine Evk.bind hrev (Evk.of_eq ?_ (fun k => if_pos rfl))
    unfold G7.f
    refine Evk.const (fun k => ?_)
    rw [hb]
    rfl
   ·
    cases hw
    rw [hb] at hy
    cases hy
 ·
  refine ⟨((⟨#[]⟩ : ByteArray), 0, 0, [], [], 0, 0, e), ?_, by show (ByteArray.mk #[]).size ≤ _; decide, fun who' hw => ?_⟩
  ·
   unfold G3.f
   exact Evk.bind hrev (Evk.of_eq (Evk.ret _) (fun k => if_neg he))
  ·
   cases hw
   exact absurd rfl he
theorem decided_ev {l : List SE} (hf : Fine13 l) (a b w : Int) : ∃ r : RE, Evk (fun k => Fn.f k a b l w) r ∧ ∀ who, revC a l w = (who, 0) → ∀ x, l.find? (fun x => x.f1.f0 == who && x.f1.f1 == wrap64 (wrap64 (3 * w) - 2)) = some x → weakC a ≤ suppC l x.f0 x.f1.f1 → err r = 0 := by
 obtain ⟨r, h1, _, h3⟩ := first_ev hf a b w
 by_cases he : err r = 0
 ·
  by_cases hs : ((suppC l r.1 r.2.2.1 : Int)) < (weakC a : Int)
  ·
   refine ⟨((⟨#[]⟩ : ByteArray), 0, 0, [], [], 0, 0, 12), ?_, fun who hw x hx hc => ?_⟩
   ·
    unfold Fn.f
    refine Evk.bind h1 (Evk.of_eq ?_ (fun k => if_pos he))
    refine Evk.bind (support_ev hf a b r.1 r.2.1 r.2.2.1 r.2.2.2.1 r.2.2.2.2.1 r.2.2.2.2.2.1 r.2.2.2.2.2.2.1) ?_
    refine Evk.const (fun k => ?_)
    rw [c_weak, Option.bind_some, if_pos hs]
   ·
    have e := h3 who hw x hx
    rw [e] at hs
    dsimp only at hs
    omega
  ·
   refine ⟨(r.1, r.2.1, r.2.2.1, r.2.2.2.1, r.2.2.2.2.1, r.2.2.2.2.2.1, r.2.2.2.2.2.2.1, 0), ?_, fun _ _ _ _ _ => rfl⟩
   unfold Fn.f
   refine Evk.bind h1 (Evk.of_eq ?_ (fun k => if_pos he))
   refine Evk.bind (support_ev hf a b r.1 r.2.1 r.2.2.1 r.2.2.2.1 r.2.2.2.2.1 r.2.2.2.2.2.1 r.2.2.2.2.2.2.1) ?_
   refine Evk.const (fun k => ?_)
   rw [c_weak, Option.bind_some, if_neg hs]
 ·
  refine ⟨((⟨#[]⟩ : ByteArray), 0, 0, [], [], 0, 0, err r), ?_, fun who hw x hx hc => ?_⟩
  ·
   unfold Fn.f
   exact Evk.bind h1 (Evk.of_eq (Evk.ret _) (fun k => if_neg he))
  ·
   have e := h3 who hw x hx
   rw [e] at he
   exact absurd rfl he
theorem up_ev {l : List SE} (hf : Fine13 l) (a b last x6 : Int) : ∀ (n : Nat) (j : Int) (row : List SE) (g0 : ByteArray) (g1 g2 : Int) (g3 : List S129) (g4 : List ByteArray) (g5 g6 : Int), j.toNat = n → -4611686018427387904 ≤ j → j ≤ 1000 → row.length + n ≤ 1000000 →
  ∃ row' : List SE, Evk (fun k => F1.l1 k last x6 row j a b l g0 g1 g2 g3 g4 g5 g6) (row', x6) ∧ row.length ≤ row'.length ∧ (j ≤ last → row' = row) := by
 intro n
 induction n with
 | zero =>
  intro j row g0 g1 g2 g3 g4 g5 g6 hn hj0 hj1 hr
  refine ⟨row, ?_, Nat.le_refl _, fun _ => rfl⟩
  refine Evk.step (g := fun k => F1.j3 k last x6 row j false a b l g0 g1 g2 g3 g4 g5 g6) (Evk.step (Evk.ret (row, x6)) (fun k => by rw [F1.j3, if_neg (by decide)])) (fun k => ?_)
  rw [F1.l1]
  by_cases h : j > last
  ·
   rw [if_pos h, decide_eq_false (by omega)]
  ·
   rw [if_neg h]
 | succ n ih =>
  intro j row g0 g1 g2 g3 g4 g5 g6 hn hj0 hj1 hr
  by_cases h : j > last
  ·
   obtain ⟨r, h1, hs, _⟩ := first_ev hf a b j
   obtain ⟨t, ht⟩ := path_some hf a b g0 r.1 hs
   have hw : wrap64 (j - 1) = j - 1 := w64 _ (by omega) (by omega)
   obtain ⟨rA, a1, a2, _⟩ := ih (j - 1) row g0 g1 g2 g3 g4 g5 g6 (by omega) (by omega) (by omega) (by omega)
   obtain ⟨rB, b1, b2, _⟩ := ih (j - 1) ([(⟨r.1, (⟨r.2.1, r.2.2.1, r.2.2.2.1, r.2.2.2.2.1, (⟨r.2.2.2.2.2.1, r.2.2.2.2.2.2.1⟩ : S33)⟩ : S35)⟩ : S37)] ++ row) r.1 r.2.1 r.2.2.1 r.2.2.2.1 r.2.2.2.2.1 r.2.2.2.2.2.1 r.2.2.2.2.2.2.1 (by omega) (by omega) (by omega) (by rw [List.length_append]; simp only [List.length_cons, List.length_nil]; omega)
   rw [← hw] at a1 b1
   have key : ∃ row' : List SE, Evk (fun k => F1.j3 k last x6 row j true a b l g0 g1 g2 g3 g4 g5 g6) (row', x6) ∧ row.length ≤ row'.length := by
    by_cases he : err r = 0
    ·
     cases t with
     | true =>
      refine ⟨rB, evk_succ ?_, by rw [List.length_append] at b2; omega⟩
      simp only [F1.j3, if_true]
      refine Evk.bind h1 (Evk.of_eq ?_ (fun k => if_pos he))
      refine Evk.of_eq b1 (fun k => ?_)
      rw [ht, Option.bind_some, if_pos rfl, Option.bind_some, if_pos (by simp only [List.length_cons, List.length_nil]; omega)]
     | false =>
      refine ⟨rA, evk_succ ?_, a2⟩
      simp only [F1.j3, if_true]
      refine Evk.bind h1 (Evk.of_eq ?_ (fun k => if_pos he))
      refine Evk.of_eq a1 (fun k => ?_)
      rw [ht, Option.bind_some, if_neg (by decide)]
    ·
     refine ⟨rA, evk_succ ?_, a2⟩
     simp only [F1.j3, if_true]
     exact Evk.bind h1 (Evk.of_eq a1 (fun k => if_neg he))
   obtain ⟨row', k1, k2⟩ := key
   refine ⟨row', Evk.step k1 (fun k => ?_), k2, fun h' => by omega⟩
   rw [F1.l1, if_pos h, decide_eq_true (by omega)]
  ·
   refine ⟨row, ?_, Nat.le_refl _, fun _ => rfl⟩
   refine Evk.step (g := fun k => F1.j3 k last x6 row j false a b l g0 g1 g2 g3 g4 g5 g6) (Evk.step (Evk.ret (row, x6)) (fun k => by rw [F1.j3, if_neg (by decide)])) (fun k => ?_)
   rw [F1.l1, if_neg h]
def ChainR (D : Int → RE) (last v : Int) (r : List SE × Int) : Prop :=
 (r.1 = [] ∧ r.2 = last ∧ ∀ u, last < u → 1 ≤ u → u ≤ v → err (D u) ≠ 0) ∨
 (last < r.2 ∧ 1 ≤ r.2 ∧ r.2 ≤ v ∧ err (D r.2) = 0 ∧ (r.2 = last + 1 → r.1.length = 1) ∧ ∀ u, r.2 < u → u ≤ v → err (D u) ≠ 0)
theorem low_ev {l : List SE} (hf : Fine13 l) (a b last : Int) (D : Int → RE) (hD : ∀ v, Evk (fun k => Fn.f k a b l v) (D v)) : ∀ (n : Nat) (v : Int), v.toNat = n → -1000 ≤ v → v ≤ 1000 → ∃ r, Evk (fun k => F1.l0 k last v a b l) r ∧ ChainR D last v r := by
 have hend : ∀ v, (v ≤ last ∨ v < 1) → Evk (fun k => F1.l0 k last v a b l) (([] : List SE), last) := fun v h => by
  refine Evk.step (g := fun k => F1.j1 k last v true a b l) (Evk.step (Evk.ret (([] : List SE), last)) (fun k => by rw [F1.j1, if_pos rfl])) (fun k => ?_)
  rw [F1.l0]
  by_cases h1 : v ≤ last
  ·
   rw [if_pos h1]
  ·
   rw [if_neg h1, decide_eq_true (by omega)]
 intro n
 induction n with
 | zero =>
  intro v hn h0 h1
  exact ⟨_, hend v (.inr (by omega)), .inl ⟨rfl, rfl, fun u _ _ _ => by omega⟩⟩
 | succ n ih =>
  intro v hn h0 h1
  by_cases h : v ≤ last
  ·
   exact ⟨_, hend v (.inl h), .inl ⟨rfl, rfl, fun u _ _ _ => by omega⟩⟩
  ·
   have hw : wrap64 (v - 1) = v - 1 := w64 _ (by omega) (by omega)
   have hd := hD v
   have hj : ∀ r, Evk (fun k => F1.j1 k last v false a b l) r → Evk (fun k => F1.l0 k last v a b l) r := fun r hr => Evk.step hr (fun k => by rw [F1.l0, if_neg h, decide_eq_false (by omega)])
   by_cases he : err (D v) = 0
   ·
    obtain ⟨row', u1, u2, u3⟩ := up_ev hf a b last v (v - 1).toNat (v - 1) ([(⟨(D v).1, (⟨(D v).2.1, (D v).2.2.1, (D v).2.2.2.1, (D v).2.2.2.2.1, (⟨(D v).2.2.2.2.2.1, (D v).2.2.2.2.2.2.1⟩ : S33)⟩ : S35)⟩ : S37)] : List S37) (D v).1 (D v).2.1 (D v).2.2.1 (D v).2.2.2.1 (D v).2.2.2.2.1 (D v).2.2.2.2.2.1 (D v).2.2.2.2.2.2.1 rfl (by omega) (by omega) (by simp only [List.length_cons, List.length_nil]; omega)
    refine ⟨(row', v), hj _ (evk_succ ?_), .inr ⟨by show last < v; omega, by show 1 ≤ v; omega, Int.le_refl _, he, fun h' => ?_, fun u h1 h2 => by dsimp only at h1; omega⟩⟩
    ·
     have c0 : (false = true) = False := by simp
     simp only [F1.j1, c0, if_false]
     refine Evk.bind hd (Evk.of_eq ?_ (fun k => if_pos he))
     rw [hw]
     exact u1
    ·
     dsimp only at h' ⊢
     rw [u3 (by omega)]
     rfl
   ·
    obtain ⟨r, r1, r2⟩ := ih (v - 1) (by omega) (by omega) (by omega)
    refine ⟨r, hj _ (evk_succ ?_), ?_⟩
    ·
     have c0 : (false = true) = False := by simp
     simp only [F1.j1, c0, if_false]
     refine Evk.bind hd (Evk.of_eq ?_ (fun k => if_neg he))
     rw [hw]
     exact r1
    ·
     rcases r2 with ⟨p1, p2, p3⟩ | ⟨p1, p2, p3, p4, p5, p6⟩
     ·
      refine .inl ⟨p1, p2, fun u q1 q2 q3 => ?_⟩
      by_cases hu : u = v
      ·
       rw [hu]; exact he
      ·
       exact p3 u q1 q2 (by omega)
     ·
      refine .inr ⟨p1, p2, by omega, p4, p5, fun u q1 q2 => ?_⟩
      by_cases hu : u = v
      ·
       rw [hu]; exact he
      ·
       exact p6 u q1 (by omega)
theorem chain_ev {l : List SE} (hf : Fine13 l) (a b : Int) (D : Int → RE) (hD : ∀ v, Evk (fun k => Fn.f k a b l v) (D v)) (T : Int) (hT : Evk (fun k => Fa.f k a b l) T) (h0 : 0 ≤ T) (h1 : T ≤ 20) (last : Int) : ∃ r, Evk (fun k => F1.f k a b l last) r ∧ ChainR D last T r := by
 obtain ⟨r, r1, r2⟩ := low_ev hf a b last D hD T.toNat T rfl (by omega) (by omega)
 exact ⟨r, Evk.of_eq (Evk.bind hT r1) (fun k => by unfold F1.f; rfl), r2⟩
theorem small13_l (l : List SE) (hl : l.length ≤ 1048576) (a b : Int) : ∀ (n i : Nat), i + n = l.length → ∃ r : Bool, Evk (fun k => Fu.l0 k (i : Int) a b l) r ∧ (r = true → l.length ≤ 60 ∧ ∀ (p : Nat) (hp : p < l.length), i ≤ p → (l[p]).f1.f1 ≤ 60)
 | 0, i, h => ⟨decide ((l.length : Int) ≤ 60), Evk.step (Evk.ret _) (fun k => by rw [Fu.l0, if_neg (by omega)]), fun hc => ⟨by have := of_decide_eq_true hc; omega, fun p hp hi => by omega⟩⟩
 | n + 1, i, h => by
  have hi : i < l.length := by omega
  by_cases h1 : (l[i]).f1.f1 > 60
  ·
   exact ⟨false, Evk.step (Evk.ret false) (fun k => by rw [Fu.l0, if_pos (by omega), if_pos (by omega), rdE_eq l i hi, if_pos h1]), fun hc => by cases hc⟩
  ·
   obtain ⟨r, h2, h3⟩ := small13_l l hl a b n (i + 1) (by omega)
   refine ⟨r, Evk.step h2 (fun k => by rw [Fu.l0, if_pos (by omega), if_pos (by omega), rdE_eq l i hi, if_neg h1, ws i (by omega)]), fun hr => ⟨(h3 hr).1, fun p hp hip => ?_⟩⟩
   by_cases hpi : p = i
   ·
    subst hpi; omega
   ·
    exact (h3 hr).2 p hp (by omega)
theorem unlike_in (l : List SE) (hl : l.length ≤ 1048576) (a b : Int) (i : Nat) (hi : i < l.length) (hn : ∃ c, Evk (fun k => Fi.l0 k ((i + 1 : Nat) : Int) a b l) c) : ∀ (n j : Nat), j + n = i → ∃ r : Bool, Evk (fun k => Fi.l1 k (i : Int) (j : Int) a b l) r
 | 0, j, h => by
  obtain ⟨c, hc⟩ := hn
  exact ⟨c, Evk.step hc (fun k => by rw [Fi.l1, if_neg (by omega), ws i (by omega)])⟩
 | n + 1, j, h => by
  have hj : j < l.length := by omega
  by_cases hq : (l[i]).f0.toList = (l[j]).f0.toList
  ·
   exact ⟨false, Evk.step (Evk.ret false) (fun k => by rw [Fi.l1, if_pos (by omega), if_pos (by omega), if_pos (by omega), if_pos (by omega), if_pos (by omega), rdE_eq l i hi, rdE_eq l j hj, if_pos hq])⟩
  ·
   obtain ⟨r, h1⟩ := unlike_in l hl a b i hi hn n (j + 1) (by omega)
   exact ⟨r, Evk.step h1 (fun k => by rw [Fi.l1, if_pos (by omega), if_pos (by omega), if_pos (by omega), if_pos (by omega), if_pos (by omega), rdE_eq l i hi, rdE_eq l j hj, if_neg hq, ws j (by omega)])⟩
theorem unlike_l (l : List SE) (hl : l.length ≤ 1048576) (a b : Int) : ∀ (n i : Nat), i + n = l.length → ∃ r : Bool, Evk (fun k => Fi.l0 k (i : Int) a b l) r
 | 0, i, h => ⟨true, Evk.step (Evk.ret true) (fun k => by rw [Fi.l0, if_neg (by omega)])⟩
 | n + 1, i, h => by
  obtain ⟨r, h1⟩ := unlike_in l hl a b i (by omega) (unlike_l l hl a b n (i + 1) (by omega)) i 0 (by omega)
  exact ⟨r, Evk.step h1 (fun k => by rw [Fi.l0, if_pos (by omega)]; rfl)⟩
def d11 : ByteArray := ⟨#[56, 90, 237, 60, 111, 227, 97, 97, 205, 91, 149, 80, 127, 128, 16, 20, 209, 149, 82, 49, 162, 178, 57, 24, 61, 213, 242, 150, 252, 22, 8, 155]⟩
def d12 : ByteArray := ⟨#[57, 64, 140, 167, 97, 126, 123, 156, 175, 246, 88, 229, 108, 4, 52, 237, 73, 194, 221, 31, 51, 237, 68, 242, 230, 67, 28, 76, 21, 114, 166, 41]⟩
def d13 : ByteArray := ⟨#[135, 36, 183, 247, 227, 10, 7, 104, 66, 91, 226, 197, 155, 33, 221, 240, 17, 92, 80, 189, 226, 190, 32, 200, 90, 12, 60, 9, 7, 170, 232, 29]⟩
def d14 : ByteArray := ⟨#[232, 247, 118, 6, 1, 165, 16, 17, 127, 154, 237, 205, 247, 181, 40, 72, 145, 190, 68, 7, 12, 167, 20, 246, 54, 14, 183, 70, 63, 182, 216, 104]⟩
def d21 : ByteArray := ⟨#[217, 50, 127, 85, 170, 58, 164, 84, 121, 0, 143, 28, 160, 97, 129, 71, 245, 59, 96, 93, 87, 239, 44, 23, 137, 72, 168, 1, 89, 237, 140, 10]⟩
def d22 : ByteArray := ⟨#[203, 10, 13, 147, 170, 72, 38, 44, 204, 169, 210, 68, 129, 77, 146, 56, 253, 232, 79, 181, 120, 29, 203, 76, 100, 39, 170, 74, 130, 146, 148, 149]⟩
def d23 : ByteArray := ⟨#[38, 86, 193, 109, 102, 193, 28, 5, 212, 90, 73, 165, 87, 32, 25, 230, 59, 211, 82, 69, 174, 49, 3, 1, 254, 112, 165, 106, 154, 163, 226, 136]⟩
def d24 : ByteArray := ⟨#[128, 217, 223, 69, 57, 28, 23, 248, 78, 18, 175, 28, 158, 95, 42, 214, 1, 20, 49, 211, 153, 62, 28, 247, 138, 171, 28, 49, 167, 76, 48, 64]⟩
def d31 : ByteArray := ⟨#[79, 245, 228, 25, 3, 75, 9, 156, 241, 130, 20, 206, 27, 30, 80, 167, 129, 136, 162, 108, 133, 194, 164, 117, 48, 129, 106, 33, 132, 41, 132, 84]⟩
def d32 : ByteArray := ⟨#[213, 7, 208, 188, 153, 39, 253, 103, 29, 55, 209, 240, 234, 165, 5, 240, 93, 131, 192, 21, 46, 115, 146, 200, 127, 24, 44, 102, 191, 37, 18, 30]⟩
def d33 : ByteArray := ⟨#[94, 228, 235, 202, 45, 21, 245, 10, 199, 199, 189, 130, 184, 5, 201, 189, 89, 79, 2, 3, 99, 107, 240, 83, 12, 231, 53, 5, 204, 109, 165, 22]⟩
def d34 : ByteArray := ⟨#[179, 8, 23, 197, 160, 214, 121, 122, 62, 103, 105, 210, 72, 228, 231, 43, 212, 135, 41, 234, 101, 176, 60, 73, 35, 151, 93, 231, 217, 226, 179, 185]⟩
def up1 : List ByteArray := []
def up2 : List ByteArray := [d11, d12, d13, d14]
def up3 : List ByteArray := [d23, d24, d22, d21]
def e11 : SE := ⟨d11, ⟨1, 1, [], up1, ⟨0, 0⟩⟩⟩
def e12 : SE := ⟨d12, ⟨2, 1, [], up1, ⟨0, 0⟩⟩⟩
def e13 : SE := ⟨d13, ⟨3, 1, [], up1, ⟨0, 0⟩⟩⟩
def e14 : SE := ⟨d14, ⟨4, 1, [], up1, ⟨0, 0⟩⟩⟩
def e21 : SE := ⟨d21, ⟨1, 2, [], up2, ⟨0, 0⟩⟩⟩
def e22 : SE := ⟨d22, ⟨2, 2, [], up2, ⟨0, 0⟩⟩⟩
def e23 : SE := ⟨d23, ⟨3, 2, [], up2, ⟨0, 0⟩⟩⟩
def e24 : SE := ⟨d24, ⟨4, 2, [], up2, ⟨0, 0⟩⟩⟩
def e31 : SE := ⟨d31, ⟨1, 3, [], up3, ⟨6572, 4632⟩⟩⟩
def e32 : SE := ⟨d32, ⟨2, 3, [], up3, ⟨2591, 9743⟩⟩⟩
def e33 : SE := ⟨d33, ⟨3, 3, [], up3, ⟨8617, 4847⟩⟩⟩
def e34 : SE := ⟨d34, ⟨4, 3, [], up3, ⟨4636, 9958⟩⟩⟩
def eqBs : List ByteArray → List ByteArray → Bool
 | [], [] => true
 | a :: r, b :: s => (a.toList == b.toList) && eqBs r s
 | _, _ => false
theorem eqBs_eq : ∀ a b : List ByteArray, eqBs a b = true → a = b
 | [], [], _ => rfl
 | a :: r, b :: s, h => by
  rw [eqBs, Bool.and_eq_true, beq_iff_eq] at h
  rw [Si.ba_ext h.1, eqBs_eq r s h.2]
 | [], b :: s, h => by cases h
 | a :: r, [], h => by cases h
def eqE (x y : SE) : Bool := (x.f0.toList == y.f0.toList) && (x.f1.f0 == y.f1.f0) && (x.f1.f1 == y.f1.f1) && x.f1.f2.isEmpty && y.f1.f2.isEmpty && eqBs x.f1.f3 y.f1.f3 && (x.f1.f4.f0 == y.f1.f4.f0) && (x.f1.f4.f1 == y.f1.f4.f1)
theorem eqE_eq (x y : SE) (h : eqE x y = true) : x = y := by
 unfold eqE at h
 simp only [Bool.and_eq_true, beq_iff_eq, List.isEmpty_iff] at h
 obtain ⟨⟨⟨⟨⟨⟨⟨h0, h1⟩, h2⟩, h3⟩, h4⟩, h5⟩, h6⟩, h7⟩ := h
 obtain ⟨x0, x1, x2, x3, x4, x5, x6⟩ := x
 obtain ⟨y0, y1, y2, y3, y4, y5, y6⟩ := y
 dsimp only at h0 h1 h2 h3 h4 h5 h6 h7
 rw [Si.ba_ext h0, h1, h2, h3, h4, eqBs_eq _ _ h5, h6, h7]
def eqL : List SE → List SE → Bool
 | [], [] => true
 | a :: r, b :: s => eqE a b && eqL r s
 | _, _ => false
theorem eqL_eq : ∀ a b : List SE, eqL a b = true → a = b
 | [], [], _ => rfl
 | a :: r, b :: s, h => by
  rw [eqL, Bool.and_eq_true] at h
  rw [eqE_eq a b h.1, eqL_eq r s h.2]
 | [], b :: s, h => by cases h
 | a :: r, [], h => by cases h
def addB (L : List SE) (id r : Int) (up : List ByteArray) (s t : Int) (e : SE) : Bool := match Fg.f 60 4 0 L id r [] up s t with
 | some (n, lo, M, _) => n == 4 && lo == 0 && eqL M (L ++ [e])
 | none => false
theorem add_ev (L : List SE) (id r : Int) (up : List ByteArray) (s t : Int) (e : SE) (h : addB L id r up s t e = true) : ∃ q, Evk (fun k => Fg.f k 4 0 L id r [] up s t) (4, 0, L ++ [e], q) := by
 unfold addB at h
 cases hq : Fg.f 60 4 0 L id r [] up s t with
 | none => rw [hq] at h; cases h
 | some v =>
  obtain ⟨n, lo, M, q⟩ := v
  rw [hq] at h
  dsimp only at h
  simp only [Bool.and_eq_true, beq_iff_eq] at h
  obtain ⟨⟨rfl, rfl⟩, h3⟩ := h
  rw [eqL_eq _ _ h3] at hq
  exact ⟨q, Evk.of_mono (fun k z hz => Fg.mono 4 0 L id r [] up s t k z hz) hq⟩
def ownB (id s t : Int) : Bool := match G5.f 60 (⟨#[]⟩ : ByteArray) 1 4 id with
 | some (a, b) => a == s && b == t
 | none => false
theorem own_ev (id s t : Int) (h : ownB id s t = true) : Evk (fun k => G5.f k (⟨#[]⟩ : ByteArray) 1 4 id) (s, t) := by
 unfold ownB at h
 cases hq : G5.f 60 (⟨#[]⟩ : ByteArray) 1 4 id with
 | none => rw [hq] at h; cases h
 | some v =>
  obtain ⟨a, b⟩ := v
  rw [hq] at h
  dsimp only at h
  simp only [Bool.and_eq_true, beq_iff_eq] at h
  obtain ⟨rfl, rfl⟩ := h
  exact Evk.of_mono (fun k z hz => G5.mono (⟨#[]⟩ : ByteArray) 1 4 id k z hz) hq
theorem l2_a (r : Int) (up : List ByteArray) (id : Int) (L : List SE) (e : SE) {v : Int × Int × List SE} (hm : ¬ Int.tmod r 3 = 0) (h1 : 1 ≤ id) (h4 : id ≤ 4) (ha : addB L id r up 0 0 e = true) (hn : Evk (fun k => F4.l2 k 3 r up (id + 1) 4 0 (L ++ [e])) v) : Evk (fun k => F4.l2 k 3 r up id 4 0 L) v := by
 obtain ⟨q, hq⟩ := add_ev L id r up 0 0 e ha
 refine evk_succ ?_
 have c1 : (id ≤ 4) = True := eq_true h4
 have c2 : (Int.tmod r 3 = 0) = False := eq_false hm
 simp only [F4.l2, c1, c2, if_true, if_false]
 refine Evk.bind hq ?_
 rw [w64 (id + 1) (by omega) (by omega)]
 exact hn
theorem l2_b (up : List ByteArray) (id : Int) (L : List SE) (e : SE) {s t : Int} {v : Int × Int × List SE} (h1 : 1 ≤ id) (h4 : id ≤ 4) (ho : ownB id s t = true) (ha : addB L id 3 up s t e = true) (hn : Evk (fun k => F4.l2 k 3 3 up (id + 1) 4 0 (L ++ [e])) v) : Evk (fun k => F4.l2 k 3 3 up id 4 0 L) v := by
 obtain ⟨q, hq⟩ := add_ev L id 3 up s t e ha
 have hw := own_ev id s t ho
 refine evk_succ ?_
 have c1 : (id ≤ 4) = True := eq_true h4
 have c2 : (Int.tmod 3 3 = 0) = True := eq_true (by decide)
 have c3 : wrap64 (Int.tdiv 3 3) = 1 := by decide +kernel
 simp only [F4.l2, c1, c2, if_true, c3]
 refine Evk.bind hw (Evk.bind hq ?_)
 rw [w64 (id + 1) (by omega) (by omega)]
 exact hn
theorem l2_e (r : Int) (up : List ByteArray) (L : List SE) {v : Int × Int × List SE} (h1 : 1 ≤ r) (h4 : r ≤ 3) (hn : Evk (fun k => F4.l0 k 3 (r + 1) 4 0 L) v) : Evk (fun k => F4.l2 k 3 r up 5 4 0 L) v :=
 Evk.step hn (fun k => by rw [F4.l2, if_neg (by omega), w64 (r + 1) (by omega) (by omega)])
def puts : List SE → List ByteArray → Option (List ByteArray)
 | [], up => some up
 | x :: m, up => (Fp.f 60 up x.f0).bind (puts m)
theorem l1_f (r : Int) (m : List SE) (hm : m.length ≤ 60) (L : List SE) (u : List ByteArray) {v : Int × Int × List SE} (hn : Evk (fun k => F4.l2 k 3 r u 1 4 0 L) v) : ∀ (n i : Nat) (up : List ByteArray), i + n = m.length → puts (m.drop i) up = some u → Evk (fun k => F4.l1 k 3 r m up (i : Int) 4 0 L) v
 | 0, i, up, h, hp => by
  rw [List.drop_eq_nil_of_le (by omega)] at hp
  obtain rfl := Option.some.inj hp
  exact Evk.step hn (fun k => by rw [F4.l1, if_neg (by omega)])
 | n + 1, i, up, h, hp => by
  have hi : i < m.length := by omega
  rw [List.drop_eq_getElem_cons hi] at hp
  obtain ⟨up', h1, h2⟩ := Option.bind_eq_some_iff.1 hp
  have ih := l1_f r m hm L u hn n (i + 1) up' (by omega) h2
  have hpu : Evk (fun k => Fp.f k up (m[i]).f0) up' := Evk.of_mono (fun k z hz => Fp.mono up (m[i]).f0 k z hz) h1
  refine evk_succ ?_
  have c1 : ((i : Int) < (m.length : Int)) = True := eq_true (by omega)
  have c2 : (0 ≤ (i : Int)) = True := eq_true (by omega)
  simp only [F4.l1, c1, c2, if_true, rdE_eq m i hi]
  refine Evk.bind hpu ?_
  rw [ws i (by omega)]
  exact ih
def roundB (L : List SE) (r : Int) (m : List SE) (u : List ByteArray) : Bool := (match Fe.f 60 4 0 L (r - 1) with
 | some x => eqL x m
 | none => false) && decide (m.length ≤ 60) && (match puts m [] with
 | some x => eqBs x u
 | none => false)
theorem l0_r (r : Int) (L m : List SE) (u : List ByteArray) {v : Int × Int × List SE} (h1 : 1 ≤ r) (h4 : r ≤ 3) (hr : roundB L r m u = true) (hn : Evk (fun k => F4.l2 k 3 r u 1 4 0 L) v) : Evk (fun k => F4.l0 k 3 r 4 0 L) v := by
 unfold roundB at hr
 rw [Bool.and_eq_true, Bool.and_eq_true] at hr
 obtain ⟨⟨ha, hb⟩, hc⟩ := hr
 cases hq : Fe.f 60 4 0 L (r - 1) with
 | none => rw [hq] at ha; cases ha
 | some x =>
  cases hp : puts m [] with
  | none => rw [hp] at hc; cases hc
  | some y =>
   rw [hq] at ha
   rw [hp] at hc
   rw [eqL_eq _ _ ha] at hq
   rw [eqBs_eq _ _ hc] at hp
   have hR : Evk (fun k => Fe.f k 4 0 L (r - 1)) m := Evk.of_mono (fun k z hz => Fe.mono 4 0 L (r - 1) k z hz) hq
   refine evk_succ ?_
   have c1 : (r ≤ 3) = True := eq_true h4
   simp only [F4.l0, c1, if_true, w64 (r - 1) (by omega) (by omega)]
   exact Evk.bind hR (l1_f r m (of_decide_eq_true hb) L u hn m.length 0 [] (Nat.zero_add _) hp)

theorem a11 : addB [] 1 1 up1 0 0 e11 = true := by decide +kernel
theorem a12 : addB [e11] 2 1 up1 0 0 e12 = true := by decide +kernel
theorem a13 : addB [e11, e12] 3 1 up1 0 0 e13 = true := by decide +kernel
theorem a14 : addB [e11, e12, e13] 4 1 up1 0 0 e14 = true := by decide +kernel
theorem a21 : addB [e11, e12, e13, e14] 1 2 up2 0 0 e21 = true := by decide +kernel
theorem a22 : addB [e11, e12, e13, e14, e21] 2 2 up2 0 0 e22 = true := by decide +kernel
theorem a23 : addB [e11, e12, e13, e14, e21, e22] 3 2 up2 0 0 e23 = true := by decide +kernel
theorem a24 : addB [e11, e12, e13, e14, e21, e22, e23] 4 2 up2 0 0 e24 = true := by decide +kernel
theorem a31 : addB [e11, e12, e13, e14, e21, e22, e23, e24] 1 3 up3 6572 4632 e31 = true := by decide +kernel
theorem o1 : ownB 1 6572 4632 = true := by decide +kernel
theorem a32 : addB [e11, e12, e13, e14, e21, e22, e23, e24, e31] 2 3 up3 2591 9743 e32 = true := by decide +kernel
theorem o2 : ownB 2 2591 9743 = true := by decide +kernel
theorem a33 : addB [e11, e12, e13, e14, e21, e22, e23, e24, e31, e32] 3 3 up3 8617 4847 e33 = true := by decide +kernel
theorem o3 : ownB 3 8617 4847 = true := by decide +kernel
theorem a34 : addB [e11, e12, e13, e14, e21, e22, e23, e24, e31, e32, e33] 4 3 up3 4636 9958 e34 = true := by decide +kernel
theorem o4 : ownB 4 4636 9958 = true := by decide +kernel
theorem r1 : roundB [] 1 [] up1 = true := by decide +kernel
theorem r2 : roundB [e11, e12, e13, e14] 2 [e11, e12, e13, e14] up2 = true := by decide +kernel
theorem r3 : roundB [e11, e12, e13, e14, e21, e22, e23, e24] 3 [e21, e22, e23, e24] up3 = true := by decide +kernel
def L12 : List SE := [e11, e12, e13, e14, e21, e22, e23, e24, e31, e32, e33, e34]
theorem f3 : Evk (fun k => F4.l0 k 3 4 4 0 L12) (4, 0, L12) := Evk.step (Evk.ret _) (fun k => by rw [F4.l0, if_neg (by omega)])
theorem f2 : Evk (fun k => F4.l0 k 3 3 4 0 [e11, e12, e13, e14, e21, e22, e23, e24]) (4, 0, L12) := l0_r 3 [e11, e12, e13, e14, e21, e22, e23, e24] [e21, e22, e23, e24] up3 (by omega) (by omega) r3 (l2_b up3 1 [e11, e12, e13, e14, e21, e22, e23, e24] e31 (by omega) (by omega) o1 a31 (l2_b up3 2 [e11, e12, e13, e14, e21, e22, e23, e24, e31] e32 (by omega) (by omega) o2 a32 (l2_b up3 3 [e11, e12, e13, e14, e21, e22, e23, e24, e31, e32] e33 (by omega) (by omega) o3 a33 (l2_b up3 4 [e11, e12, e13, e14, e21, e22, e23, e24, e31, e32, e33] e34 (by omega) (by omega) o4 a34 (l2_e 3 up3 _ (by omega) (by omega) f3)))))
theorem f1 : Evk (fun k => F4.l0 k 3 2 4 0 [e11, e12, e13, e14]) (4, 0, L12) := l0_r 2 [e11, e12, e13, e14] [e11, e12, e13, e14] up2 (by omega) (by omega) r2 (l2_a 2 up2 1 [e11, e12, e13, e14] e21 (by decide) (by omega) (by omega) a21 (l2_a 2 up2 2 [e11, e12, e13, e14, e21] e22 (by decide) (by omega) (by omega) a22 (l2_a 2 up2 3 [e11, e12, e13, e14, e21, e22] e23 (by decide) (by omega) (by omega) a23 (l2_a 2 up2 4 [e11, e12, e13, e14, e21, e22, e23] e24 (by decide) (by omega) (by omega) a24 (l2_e 2 up2 _ (by omega) (by omega) f2)))))
theorem f0 : Evk (fun k => F4.l0 k 3 1 4 0 []) (4, 0, L12) := l0_r 1 [] [] up1 (by omega) (by omega) r1 (l2_a 1 up1 1 [] e11 (by decide) (by omega) (by omega) a11 (l2_a 1 up1 2 [e11] e12 (by decide) (by omega) (by omega) a12 (l2_a 1 up1 3 [e11, e12] e13 (by decide) (by omega) (by omega) a13 (l2_a 1 up1 4 [e11, e12, e13] e14 (by decide) (by omega) (by omega) a14 (l2_e 1 up1 _ (by omega) (by omega) f1)))))
theorem four_lit : Evk (fun k => F4.f k 3) (4, 0, L12) := Evk.of_eq f0 (fun k => by unfold F4.f; rfl)
def whoB (L : List SE) (who : Int) : Bool := match L.find? (fun x => x.f1.f0 == who && x.f1.f1 == 1) with
 | some x => decide (2 ≤ suppC L x.f0 x.f1.f1)
 | none => false
def sharesB : List S111 → Bool
 | [s, t] => s.f0 == 1 && s.f1.f0 == 6572 && s.f1.f1 == 4632 && t.f0 == 2 && t.f1.f0 == 2591 && t.f1.f1 == 9743
 | _ => false
def S2 : List S111 := [⟨1, ⟨6572, 4632⟩⟩, ⟨2, ⟨2591, 9743⟩⟩]
theorem shares_eq (l : List S111) (h : sharesB l = true) : l = S2 := by
 match l, h with
 | [⟨s0, s1, s2⟩, ⟨t0, t1, t2⟩], h =>
  simp only [sharesB, Bool.and_eq_true, beq_iff_eq] at h
  obtain ⟨⟨⟨⟨⟨rfl, rfl⟩, rfl⟩, rfl⟩, rfl⟩, rfl⟩ := h
  rfl
def chkB (L : List SE) : Bool := fineB L && whoB L 1 && whoB L 2 && whoB L 3 && whoB L 4 && (Fa.f 40 4 0 L == some 1) && decide (2 ≤ (roundC L 3).length) && sharesB (((roundC L 3).take 2).map shC)
set_option maxRecDepth 100000 in
theorem four_ok : chkB L12 = true := by decide +kernel
theorem ap2 : Fl.apB (eS S2) = true := by decide +kernel
theorem odd2 : Fl.oddS (eS S2) = false := by decide +kernel
theorem add_ok (x y : Gm.E) : Gm.Ok (Fl.opE Gm.add x y) := by
 unfold Fl.opE
 split
 ·
  exact Gm.red_ok _
 ·
  exact (by decide : Gm.Ok (0, 0))
theorem sum_ok (l : List (Int × Gm.E)) (wt : Nat → Gm.E) : ∀ (r i : Nat) (o : Gm.E), Gm.Ok o → Gm.Ok (Fl.sumFrom l wt r i o)
 | 0, _, _, h => h
 | r + 1, i, o, h => by
  rw [Fl.sumFrom]
  exact sum_ok l wt r (i + 1) _ (add_ok _ _)
theorem open_ok (l : List S111) (h : sharesB l = true) : ∃ who, openC l 4 = (who, 0) ∧ 1 ≤ who ∧ who ≤ 4 := by
 rw [shares_eq l h]
 have hy : Fl.openE (eS S2) (Fl.wtE (eS S2)) = (Fl.sumFrom (eS S2) (Fl.wtE (eS S2)) (eS S2).length 0 (0, 0), 0) := by
  unfold Fl.openE
  rw [if_neg (by decide), ap2, if_neg (by decide), odd2, if_neg (by decide)]
 have hs := sum_ok (eS S2) (Fl.wtE (eS S2)) (eS S2).length 0 (0, 0) (by decide)
 generalize Fl.sumFrom (eS S2) (Fl.wtE (eS S2)) (eS S2).length 0 (0, 0) = z at hy hs
 refine ⟨leadC z 4, ?_, ?_⟩
 ·
  unfold openC
  rw [hy, if_pos rfl]
 ·
  unfold leadC
  rw [if_pos ⟨by decide, hs⟩]
  have := Int.emod_nonneg (z.1 * 10007 + z.2) (show (4 : Int) ≠ 0 by omega)
  have := Int.emod_lt_of_pos (z.1 * 10007 + z.2) (show (0 : Int) < 4 by omega)
  omega
theorem shown_ev : Evk (fun k => Gd.f k) true := by
 have hc := four_ok
 have h4 := four_lit
 generalize L12 = L at hc h4
 unfold chkB at hc
 simp only [Bool.and_eq_true, beq_iff_eq, decide_eq_true_eq] at hc
 obtain ⟨⟨⟨⟨⟨⟨⟨hf, w1⟩, w2⟩, w3⟩, w4⟩, ht⟩, hr⟩, hs⟩ := hc
 have hF := fine_of L hf
 have hT : Evk (fun k => Fa.f k 4 0 L) 1 := Evk.of_mono (fun k r h => Fa.mono 4 0 L k r h) ht
 obtain ⟨who, ho, g1, g2⟩ := open_ok _ hs
 have hrev : revC 4 L 1 = (who, 0) := by
  have e4 : weakC 4 = 2 := by decide
  unfold revC
  rw [if_neg (by rintro (h | h | h) <;> first | omega | exact absurd h (by decide)), e4, if_neg (by show ¬ (roundC L (3 * 1)).length < 2; have e : (3 * 1 : Int) = 3 := rfl; rw [e]; omega)]
  exact ho
 have hwho : whoB L who = true := by
  rcases (show who = 1 ∨ who = 2 ∨ who = 3 ∨ who = 4 by omega) with rfl | rfl | rfl | rfl <;> assumption
 let D : Int → RE := fun v => (decided_ev hF 4 0 v).choose
 have hD : ∀ v, Evk (fun k => Fn.f k 4 0 L v) (D v) := fun v => (decided_ev hF 4 0 v).choose_spec.1
 have hD1 : err (D 1) = 0 := by
  unfold whoB at hwho
  cases hx : L.find? (fun x => x.f1.f0 == who && x.f1.f1 == 1) with
  | none => rw [hx] at hwho; cases hwho
  | some x =>
   rw [hx] at hwho
   have h2 := of_decide_eq_true hwho
   have e4 : weakC 4 = 2 := by decide
   have e1 : wrap64 (wrap64 (3 * 1) - 2) = 1 := by decide +kernel
   exact (decided_ev hF 4 0 1).choose_spec.2 who hrev x (by rw [e1]; exact hx) (by rw [e4]; exact h2)
 obtain ⟨r, r1, r2⟩ := chain_ev hF 4 0 D hD 1 hT (by omega) (by omega) 0
 have hres : r.2 = 1 ∧ r.1.length = 1 := by
  rcases r2 with ⟨_, _, p3⟩ | ⟨p1, p2, p3, _, p5, _⟩
  ·
   exact absurd hD1 (p3 1 (by omega) (by omega) (by omega))
  ·
   exact ⟨by omega, p5 (by omega)⟩
 refine Evk.of_eq (Evk.bind h4 (Evk.bind r1 ?_)) (fun k => by unfold Gd.f; rfl)
 refine Evk.const (fun k => ?_)
 rw [hres.2, hres.1]
 rfl
theorem stops_l {l : List SE} (hf : Fine13 l) (a b : Int) (D : Int → RE) (hD : ∀ v, Evk (fun k => Fn.f k a b l v) (D v)) (T : Int) (hT : Evk (fun k => Fa.f k a b l) T) (h1 : T ≤ 20) (w : Int) (hno : ∀ u, w < u → 1 ≤ u → u ≤ T → err (D u) ≠ 0) : ∀ (n : Nat) (j : Int), (T + 1 - j).toNat = n → (w < j ∨ j < 1) → Evk (fun k => F3.l0 k w ([] : List SE) w j a b l) true := by
 have hend : ∀ j, Evk (fun k => F3.j2 k w ([] : List SE) w j false a b l) true := fun j => Evk.step (Evk.ret true) (fun k => by rw [F3.j2, if_neg (by decide), if_pos (show ((([] : List SE).length : Nat) : Int) = 0 from rfl), beq_self_eq_true])
 have hout : ∀ j, (T < j ∨ j < 1) → Evk (fun k => F3.l0 k w ([] : List SE) w j a b l) true := fun j h => by
  refine evk_succ ?_
  simp only [F3.l0]
  refine Evk.bind hT ?_
  by_cases h2 : j ≤ T
  ·
   refine Evk.of_eq (hend j) (fun k => ?_)
   rw [if_pos h2, decide_eq_false (by omega)]
  ·
   exact Evk.of_eq (hend j) (fun k => if_neg h2)
 intro n
 induction n with
 | zero => exact fun j hj _ => hout j (.inl (by omega))
 | succ n ih =>
  intro j hj hw
  by_cases h2 : j < 1
  ·
   exact hout j (.inr h2)
  ·
   have hd := hno j (by omega) (by omega) (by omega)
   have hi := ih (j + 1) (by omega) (.inl (by omega))
   refine evk_succ ?_
   simp only [F3.l0]
   refine Evk.bind hT ?_
   refine Evk.of_eq (g := fun k => F3.j2 k w ([] : List SE) w j true a b l) (evk_succ ?_) (fun k => by rw [if_pos (by omega), decide_eq_true (by omega)])
   simp only [F3.j2, if_true]
   refine Evk.bind (hD j) (Evk.of_eq ?_ (fun k => if_neg hd))
   rw [w64 (j + 1) (by omega) (by omega)]
   exact hi
theorem TuskStops : F3.Pure := by
 intro x0 a1 hx ha hb
 have hbx : (x0.f2.map B37).sum ≤ 1048576 := by
  have e : B24 x0 = 1 + 1 + ((x0.f2.map B37).sum + 1) + 1 := rfl
  omega
 have hgl : x0.f2.length ≤ 1048576 := Nat.le_trans (ents_sum x0.f2).1 hbx
 have hg : ∀ x ∈ x0.f2, G37 x := hx.2.2.2
 have hok := okX_of x0.f2 hgl hbx hg
 have ha2 : -9223372036854775808 ≤ a1 ∧ a1 ≤ 9223372036854775807 := by
  simp [Lit.wf, IntKind.min, IntKind.max, IntKind.signed, IntKind.bits] at ha
  omega
 refine Evk.get ?_
 obtain ⟨s, hs1, hs2⟩ := small13_l x0.f2 hgl x0.f0 x0.f1 x0.f2.length 0 (by omega)
 obtain ⟨u, hu⟩ := unlike_l x0.f2 hgl x0.f0 x0.f1 x0.f2.length 0 (by omega)
 have hout : Evk (fun k => F3.j0 k a1 true true x0.f0 x0.f1 x0.f2) true := Evk.step (Evk.ret true) (fun k => by rw [F3.j0, if_pos rfl])
 have key : s = true → Evk (fun k => F3.j0 k a1 true false x0.f0 x0.f1 x0.f2) true := fun hs => by
  obtain ⟨f1, f2⟩ := hs2 hs
  have hf : Fine13 x0.f2 := ⟨f1, hok, fun x hx => by
   obtain ⟨p, hp, rfl⟩ := List.mem_iff_getElem.1 hx
   exact f2 p hp (by omega)⟩
  obtain ⟨T, hT, t0, t1⟩ := top_ev hf x0.f0 x0.f1
  let D : Int → RE := fun v => (decided_ev hf x0.f0 x0.f1 v).choose
  have hD : ∀ v, Evk (fun k => Fn.f k x0.f0 x0.f1 x0.f2 v) (D v) := fun v => (decided_ev hf x0.f0 x0.f1 v).choose_spec.1
  obtain ⟨r, r1, r2⟩ := chain_ev hf x0.f0 x0.f1 D hD T hT t0 t1 a1
  have hno : ∀ u, r.2 < u → 1 ≤ u → u ≤ T → err (D u) ≠ 0 := by
   rcases r2 with ⟨_, p2, p3⟩ | ⟨p1, p2, p3, _, _, p6⟩
   ·
    rw [p2]; exact p3
   ·
    exact fun u q1 _ q3 => p6 u q1 q3
  have hwr : -9223372036854775808 ≤ r.2 ∧ r.2 ≤ 9223372036854775807 := by
   rcases r2 with ⟨_, p2, _⟩ | ⟨p1, p2, p3, _⟩ <;> omega
  obtain ⟨q, q1, q2⟩ := chain_ev hf x0.f0 x0.f1 D hD T hT t0 t1 r.2
  have hq : q = (([] : List SE), r.2) := by
   rcases q2 with ⟨p1, p2, _⟩ | ⟨p1, p2, p3, p4, _⟩
   ·
    exact Prod.ext p1 p2
   ·
    exact absurd p4 (hno q.2 p1 p2 p3)
  rw [hq] at q1
  refine evk_succ ?_
  have c0 : (false = true) = False := by simp
  simp only [F3.j0, c0, if_false]
  refine Evk.bind r1 (Evk.bind q1 ?_)
  refine stops_l hf x0.f0 x0.f1 D hD T hT t1 r.2 hno _ _ rfl ?_
  by_cases hm : r.2 = 9223372036854775807
  ·
   rw [hm]; exact .inr (by decide +kernel)
  ·
   rw [wrap64_in (r.2 + 1) (by omega)]; exact .inl (by omega)
 unfold F3.f
 refine Evk.bind shown_ev (Evk.bind (Evk.of_eq hs1 (fun k => by unfold Fu.f; rfl)) (Evk.bind (Evk.of_eq hu (fun k => by unfold Fi.f; rfl)) ?_))
 cases s with
 | false => exact Evk.of_eq hout (fun k => by rw [if_pos rfl, if_neg (by decide)])
 | true =>
  cases u with
  | false => exact Evk.of_eq hout (fun k => by rw [if_pos rfl, if_pos rfl]; rfl)
  | true => exact Evk.of_eq (key rfl) (fun k => by rw [if_pos rfl, if_pos rfl]; rfl)
end Go.Proofs.Ytcbfnmabckjijaa.Pure
