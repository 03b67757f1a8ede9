import Derived.Test.YtopijobdblfhoaaGreatArgTuskAsks
import Derived.Test.YtopijobdblfhoaaGreatVTuskAsksEk
import Derived.Test.YtopijobdblfhoaaGreatVTuskAsksSz
import Derived.IntWalk
namespace Go.Proofs.YtopijobdblfhoaaGreat.Pure
open Go.RowKit Go.Proofs.YtopijobdblfhoaaGreat.PTuskAsks Go.Proofs.YtopijobdblfhoaaGreatW.PrintWords Go.Proofs.YtopijobdblfhoaaGreatW.PrintLast
open Go.Proofs.YtopijobdblfhoaaGreat.Ek
open Go.IntWalk
set_option linter.unusedVariables false
set_option linter.unusedSimpArgs false
instance baLawful : LawfulBEq ByteArray where
 eq_of_beq {a b} h := by
  have h2 : (a.data == b.data) = true := h
  rcases a with ⟨a⟩
  rcases b with ⟨b⟩
  exact congrArg ByteArray.mk (eq_of_beq h2)
 rfl {a} := by
  show (a.data == a.data) = true
  exact beq_self_eq_true a.data
theorem ba_ext {a b : ByteArray} (h : a.toList = b.toList) : a = b := by
 have e : ∀ x : ByteArray, x.toList = x.data.toList := fun x => ByteArray.toList_eq x
 rw [e, e] at h
 rcases a with ⟨⟨a⟩⟩
 rcases b with ⟨⟨b⟩⟩
 simpa using h
theorem rdE_eq (m : List SE) (i : Nat) (h : i < m.length) : rd_T32 m (i : Int) = m[i] := by
 unfold rd_T32
 rw [Int.toNat_natCast, List.getD_eq_getElem?_getD, List.getElem?_eq_getElem h]; rfl
theorem evk_succ {α : Type} {f : Nat → Option α} {v : α} (h : Evk (fun k => f (k + 1)) v) : Evk f v := by
 obtain ⟨k0, h0⟩ := h
 refine ⟨k0 + 1, fun k hk => ?_⟩
 obtain ⟨k', rfl⟩ : ∃ k', k = k' + 1 := ⟨k - 1, by omega⟩
 exact h0 k' (by omega)
theorem w64 (x : Int) (h : -4611686018427387904 ≤ x) (h' : x ≤ 4611686018427387904) : wrap64 x = x := Go.IntWalk.wrap64_in x (by omega)
theorem ws (i : Nat) (h : i ≤ 4611686018427387000) : wrap64 ((i : Int) + 1) = ((i + 1 : Nat) : Int) := by rw [w64 _ (by omega) (by omega)]; rfl
theorem rdOf_eq (l : List ByteArray) (i : Nat) (h : i < l.length) : rdOf ByteArray.empty l (i : Int) = l[i] := by
 unfold rdOf
 rw [Int.toNat_natCast, List.getD_eq_getElem?_getD, List.getElem?_eq_getElem h]; rfl
theorem ba_beq (a b : ByteArray) : (a == b) = decide (a.toList = b.toList) := by
 by_cases h : a.toList = b.toList
 ·
  have e := ba_ext h
  subst e
  rw [decide_eq_true h]
  exact beq_self_eq_true a
 ·
  rw [decide_eq_false h]
  exact beq_eq_false_iff_ne.2 (fun e => h (by rw [e]))
theorem index_l (l : List ByteArray) (hl : l.length ≤ 1099511627776) (s : ByteArray) : ∀ (n i : Nat), i + n = l.length → ∃ r : Int, Evk (fun k => G4.l0 k l s (l.length : Int) (i : Int)) r ∧ decide (r ≥ 0) = (l.drop i).contains s
 | 0, i, h => ⟨-1, Evk.step (Evk.ret (-1)) (fun k => by rw [G4.l0, if_neg (by omega)]), by rw [List.drop_eq_nil_of_le (by omega)]; rfl⟩
 | n + 1, i, h => by
  have hi : i < l.length := by omega
  have e := rdOf_eq l i hi
  rw [List.drop_eq_getElem_cons hi, List.contains_cons, ba_beq]
  by_cases hq : s.toList = (l[i]).toList
  ·
   refine ⟨(i : Int), Evk.step (Evk.ret (i : Int)) (fun k => by rw [G4.l0, if_pos (by omega), if_pos (by omega), if_pos (by omega), e, if_pos hq]), ?_⟩
   rw [decide_eq_true hq, Bool.true_or]
   exact decide_eq_true (by omega)
  ·
   obtain ⟨r, h1, h2⟩ := index_l l hl s n (i + 1) (by omega)
   refine ⟨r, Evk.step h1 (fun k => by rw [G4.l0, if_pos (by omega), if_pos (by omega), if_pos (by omega), e, if_neg hq, ws i (by omega)]), ?_⟩
   rw [decide_eq_false hq, Bool.false_or]
   exact h2
theorem contains_ev (l : List ByteArray) (hl : l.length ≤ 1099511627776) (s : ByteArray) : Evk (fun k => Gu.f k l s) (l.contains s) := by
 obtain ⟨r, h1, h2⟩ := index_l l hl s l.length 0 (by omega)
 rw [List.drop_zero] at h2
 refine Evk.bind (f := fun k => G4.f k l s) (g := fun _ t => some (decide (t ≥ 0))) h1 ?_
 rw [h2]
 exact Evk.ret _
def mayC (n : Int) : Bool := decide (4 ≤ n ∧ n ≤ 64 ∧ n % 3 = 1)
theorem c_may (n : Int) : Fx.f n = some (mayC n) := by
 unfold Fx.f mayC
 by_cases h1 : n ≥ 4
 ·
  by_cases h2 : n ≤ 64
  ·
   rw [if_pos h1, if_pos h2, Int.tmod_eq_emod_of_nonneg (by omega)]
   congr 1
   rw [Bool.eq_iff_iff, beq_iff_eq, decide_eq_true_iff]
   omega
  ·
   rw [if_pos h1, if_neg h2, decide_eq_false (by omega)]
 ·
  rw [if_neg h1, decide_eq_false (by omega)]
theorem mayC_of {n : Int} (h : mayC n = true) : 4 ≤ n ∧ n ≤ 64 ∧ n % 3 = 1 := of_decide_eq_true h
def weakC (n : Int) : Nat := if mayC n = true then ((n - 1) / 3).toNat + 1 else 0
theorem c_weak (n : Int) : G7.f n = some (weakC n : Int) := by
 unfold G7.f Gv.f weakC
 rw [c_may]
 simp only [Option.bind_some]
 by_cases h : mayC n = true
 ·
  have := mayC_of h
  rw [if_pos h, if_pos h, if_pos h, Option.bind_some, wrap64_in (n - 1) (by omega), Int.tdiv_eq_ediv_of_nonneg (by omega), wrap64_in ((n - 1) / 3) (by omega), wrap64_in _ (by omega)]
  congr 1
  omega
 ·
  rw [if_neg h, if_neg h]
  rfl
theorem c_gm (a b : Int) : G8.f a b = some (decide (Gm.Ok (a, b))) := by
 have e : Gm.Ok (a, b) ↔ 0 ≤ a ∧ a < 10007 ∧ 0 ≤ b ∧ b < 10007 := Iff.rfl
 unfold G8.f
 by_cases h1 : a ≥ 0
 ·
  by_cases h2 : a < 10007
  ·
   by_cases h3 : b ≥ 0
   ·
    rw [if_pos h1, if_pos h2, if_pos h3, Option.some.injEq, decide_eq_decide, e]
    omega
   ·
    rw [if_pos h1, if_pos h2, if_neg h3, decide_eq_false (fun h => by rw [e] at h; omega)]
  ·
   rw [if_pos h1, if_neg h2, decide_eq_false (fun h => by rw [e] at h; omega)]
 ·
  rw [if_neg h1, decide_eq_false (fun h => by rw [e] at h; omega)]
def leadC (x : Gm.E) (n : Int) : Int := if mayC n = true ∧ Gm.Ok x then 1 + (x.1 * 10007 + x.2) % n else 0
theorem lead_sum (a b n : Int) (hn : mayC n = true) (h : Gm.Ok (a, b)) : wrap64 (1 + Int.tmod (wrap64 (wrap64 (a * 10007) + b)) n) = 1 + (a * 10007 + b) % n := by
 have hm := mayC_of hn
 obtain ⟨h1, h2, h3, h4⟩ : 0 ≤ a ∧ a < 10007 ∧ 0 ≤ b ∧ b < 10007 := h
 have m1 := Int.emod_nonneg (a * 10007 + b) (show n ≠ 0 by omega)
 have m2 := Int.emod_lt_of_pos (a * 10007 + b) (show 0 < n by omega)
 rw [wrap64_in (a * 10007) (by omega), wrap64_in (a * 10007 + b) (by omega), Int.tmod_eq_emod_of_nonneg (by omega), wrap64_in _ (by omega)]
theorem c_lead (a b n : Int) : Gw.f a b n = some (leadC (a, b) n) := by
 unfold Gw.f leadC
 rw [c_may, Option.bind_some]
 by_cases hn : mayC n = true
 ·
  have hm := mayC_of hn
  rw [if_pos hn, c_gm, Option.bind_some]
  by_cases h : Gm.Ok (a, b)
  ·
   rw [if_pos (decide_eq_true h), if_neg (by omega), if_pos ⟨hn, h⟩, lead_sum a b n hn h]
  ·
   rw [if_neg (by simpa using h), if_neg (fun x => h x.2)]
 ·
  rw [if_neg hn, if_neg (fun x => hn x.1)]
theorem c_rmay (n : Int) : Fm.f n = some (mayC n) := by
 unfold Fm.f mayC
 by_cases h0 : n = 4
 ·
  rw [if_pos h0, decide_eq_true (by omega)]
 ·
  by_cases h1 : n > 4
  ·
   by_cases h2 : n ≤ 64
   ·
    rw [if_neg h0, if_pos h1, if_pos h2, wrap64_in _ (by omega), Int.tmod_eq_emod_of_nonneg (by omega)]
    congr 1
    rw [Bool.eq_iff_iff, beq_iff_eq, decide_eq_true_iff]
    omega
   ·
    rw [if_neg h0, if_pos h1, if_neg h2, decide_eq_false (by omega)]
  ·
   rw [if_neg h0, if_neg h1, decide_eq_false (by omega)]
theorem c_rweak (n : Int) : G9.f n = some (weakC n : Int) := by
 unfold G9.f weakC
 rw [c_rmay, Option.bind_some]
 by_cases h : mayC n = true
 ·
  have := mayC_of h
  rw [if_pos h, if_pos h, wrap64_in (n - 1) (by omega), Int.tdiv_eq_ediv_of_nonneg (by omega), wrap64_in ((n - 1) / 3) (by omega), wrap64_in _ (by omega)]
  congr 1
  omega
 ·
  rw [if_neg h, if_neg h]
  rfl
theorem c_rgm (a b : Int) : F1.f a b = some (decide (Gm.Ok (a, b))) := by
 have e : Gm.Ok (a, b) ↔ 0 ≤ a ∧ a < 10007 ∧ 0 ≤ b ∧ b < 10007 := Iff.rfl
 unfold F1.f
 by_cases h1 : a ≥ 0
 ·
  by_cases h2 : a < 10007
  ·
   by_cases h3 : b ≥ 0
   ·
    rw [if_pos h1, if_pos h2, if_pos h3, Option.some.injEq, decide_eq_decide, e]
    omega
   ·
    rw [if_pos h1, if_pos h2, if_neg h3, decide_eq_false (fun h => by rw [e] at h; omega)]
  ·
   rw [if_pos h1, if_neg h2, decide_eq_false (fun h => by rw [e] at h; omega)]
 ·
  rw [if_neg h1, decide_eq_false (fun h => by rw [e] at h; omega)]
theorem c_rlead (a b n : Int) : Gl.f a b n = some (leadC (a, b) n) := by
 unfold Gl.f leadC
 rw [c_rmay, Option.bind_some, c_rgm, Option.bind_some]
 by_cases hn : mayC n = true
 ·
  have hm := mayC_of hn
  rw [if_pos hn]
  by_cases h : Gm.Ok (a, b)
  ·
   rw [if_pos (decide_eq_true h), if_neg (by omega), if_pos ⟨hn, h⟩, lead_sum a b n hn h]
  ·
   rw [if_neg (by simpa using h), if_neg (fun x => h x.2)]
 ·
  rw [if_neg hn, if_neg (fun x => hn x.1)]
def shC (x : S32) : S76 := ⟨x.f1.f0, ⟨x.f1.f4.f0, x.f1.f4.f1⟩⟩
def roundC (L : List S32) (r : Int) : List S32 := L.filter fun x => decide (x.f1.f1 = r)
theorem roundC_len (L : List S32) (r : Int) : (roundC L r).length ≤ L.length := List.length_filter_le _ _
theorem roundC_snoc (L : List S32) (r : Int) (x : S32) : roundC (L ++ [x]) r = if x.f1.f1 = r then roundC L r ++ [x] else roundC L r := by
 unfold roundC
 by_cases h : x.f1.f1 = r <;> simp [List.filter_append, h]
theorem rd32 (L : List S32) {i : Nat} (h : i < L.length) : rd_T32 L (i : Int) = L[i] := by
 unfold rd_T32
 rw [Int.toNat_natCast, List.getD_eq_getElem?_getD, List.getElem?_eq_getElem h]
 rfl
theorem c_round_l (L : List S32) (r : Int) (hl : L.length ≤ 1000000) : ∀ (m i : Nat), i + m = L.length → Evk (fun k => Fw.l0 k r (roundC (L.take i) r) L (L.length : Int) (i : Int)) (roundC L r)
 | 0, i, hi => by
  refine Evk.step (g := fun _ => some (roundC L r)) (Evk.const fun _ => rfl) fun k => ?_
  rw [Fw.l0, if_neg (by omega), List.take_of_length_le (by omega)]
 | m + 1, i, hi => by
  have hlt : i < L.length := by omega
  have ih := c_round_l L r hl m (i + 1) (by omega)
  have w1 : wrap64 ((i : Int) + 1) = ((i + 1 : Nat) : Int) := by rw [wrap64_in _ (by omega)]; omega
  rw [List.take_succ_eq_append_getElem hlt, roundC_snoc] at ih
  refine ih.step fun k => ?_
  rw [Fw.l0, if_pos (by omega), if_pos (by omega), if_pos (by omega), rd32 L hlt, w1]
  by_cases h : L[i].f1.f1 = r
  ·
   rw [if_pos h, if_pos h, if_pos (by have := roundC_len (L.take i) r; rw [List.length_take] at this; omega)]
  ·
   rw [if_neg h, if_neg h]
theorem c_round (L : List S32) (n low r : Int) (hl : L.length ≤ 1000000) : Evk (fun k => Fw.f k n low L r) (roundC L r) :=
 (c_round_l L r hl L.length 0 (by omega)).of_eq fun k => by unfold Fw.f; rfl
def openC (s : List S76) (n : Int) : Int × Int := if (Fl.openE (eS s) (Fl.wtE (eS s))).2 = 0 then (leadC (Fl.openE (eS s) (Fl.wtE (eS s))).1 n, 0) else (0, (Fl.openE (eS s) (Fl.wtE (eS s))).2)
def revC (n : Int) (L : List S32) (wave : Int) : Int × Int :=
 if wave < 1 ∨ 1048576 < wave ∨ mayC n = false then (0, 1)
 else if (roundC L (3 * wave)).length < weakC n then (0, 12)
 else openC (((roundC L (3 * wave)).take (weakC n)).map shC) n
theorem c_rev_l (Y L : List S32) (n low : Int) (hl : Y.length ≤ 1000000) : ∀ (m i : Nat), i + m = Y.length → Evk (fun k => F8.l0 k ((Y.take i).map shC) Y (Y.length : Int) (i : Int) n low L) (openC (Y.map shC) n)
 | 0, i, hi => by
  refine Evk.step (g := fun _ => some (openC (Y.map shC) n)) (Evk.const fun _ => rfl) fun k => ?_
  rw [F8.l0, if_neg (by omega), List.take_of_length_le (by omega)]
  unfold Gx.f openC
  rw [Option.bind_some]
  simp only
  by_cases h : (Fl.openE (eS (Y.map shC)) (Fl.wtE (eS (Y.map shC)))).2 = 0
  ·
   rw [if_pos h, if_pos h, c_lead]
   rfl
  ·
   rw [if_neg h, if_neg h]
 | m + 1, i, hi => by
  have hlt : i < Y.length := by omega
  have ih := c_rev_l Y L n low hl m (i + 1) (by omega)
  have w1 : wrap64 ((i : Int) + 1) = ((i + 1 : Nat) : Int) := by rw [wrap64_in _ (by omega)]; omega
  rw [List.take_succ_eq_append_getElem hlt, List.map_append] at ih
  refine ih.step fun k => ?_
  rw [F8.l0, if_pos (by omega), if_pos (by omega), if_pos (by omega), if_pos (by rw [List.length_map, List.length_take]; omega), rd32 Y hlt, w1]
  rfl
theorem c_rev (L : List S32) (n low wave : Int) (hl : L.length ≤ 1000000) : Evk (fun k => F8.f k n low L wave) (revC n L wave) := by
 have hno : Evk (fun k => F8.j0 k wave true n low L) (0, 1) := Evk.step (g := fun _ => some (0, 1)) (Evk.const fun _ => rfl) fun k => by rw [F8.j0, if_pos rfl]
 unfold revC
 by_cases h1 : wave < 1
 ·
  rw [if_pos (.inl h1)]
  exact hno.of_eq fun k => by unfold F8.f; rw [if_pos h1]
 ·
  by_cases h2 : 1048576 < wave
  ·
   rw [if_pos (.inr (.inl h2))]
   exact hno.of_eq fun k => by unfold F8.f; rw [if_neg h1, if_pos h2]
  ·
   cases hn : mayC n with
   | false =>
    rw [if_pos (.inr (.inr rfl))]
    exact hno.of_eq fun k => by unfold F8.f; rw [if_neg h1, if_neg h2, c_may, Option.bind_some, hn]; rfl
   | true =>
    rw [if_neg (by rintro (h | h | h) <;> first | omega | cases h)]
    have hr := c_round L n low (3 * wave) hl
    have hj : Evk (fun k => F8.j0 k wave false n low L) (if (roundC L (3 * wave)).length < weakC n then (0, 12) else openC (((roundC L (3 * wave)).take (weakC n)).map shC) n) := by
     refine Evk.step (hr.bind (g := fun k t142 => ((G7.f n).bind fun t145 => (if (t142.length : Int) < t145 then (some (0, 12)) else ((G7.f n).bind fun t146 => (if 0 ≤ t146 then (if t146 ≤ (t142.length : Int) then ((some (t142.take (t146 : Int).toNat : List (S32))).bind fun y147 => (F8.l0 k ([] : List (S76)) y147 (y147.length : Int) 0 n low L)) else (none)) else (none)))))) ?_) fun k => ?_
     ·
      by_cases h3 : (roundC L (3 * wave)).length < weakC n
      ·
       rw [if_pos h3]
       exact Evk.const fun k => by rw [c_weak, Option.bind_some, if_pos (by omega)]
      ·
       rw [if_neg h3]
       have hR := roundC_len L (3 * wave)
       refine (c_rev_l ((roundC L (3 * wave)).take (weakC n)) L n low (by rw [List.length_take]; omega) _ 0 (Nat.zero_add _)).of_eq fun k => ?_
       rw [c_weak, Option.bind_some, if_neg (by omega), Option.bind_some, if_pos (by omega), if_pos (by omega), Option.bind_some, Int.toNat_natCast]
       rfl
     ·
      rw [F8.j0, if_neg (by decide), wrap64_in _ (by omega)]
    exact hj.of_eq fun k => by unfold F8.f; rw [if_neg h1, if_neg h2, c_may, Option.bind_some, hn]; rfl
theorem rmay (a b : Int) : F1.f a b = some (decide (Gm.Ok (a, b))) := by
 have e : Gm.Ok (a, b) ↔ 0 ≤ a ∧ a < 10007 ∧ 0 ≤ b ∧ b < 10007 := Iff.rfl
 unfold F1.f
 by_cases h1 : a ≥ 0
 ·
  by_cases h2 : a < 10007
  ·
   by_cases h3 : b ≥ 0
   ·
    rw [if_pos h1, if_pos h2, if_pos h3, Option.some.injEq, decide_eq_decide, e]
    omega
   ·
    rw [if_pos h1, if_pos h2, if_neg h3, decide_eq_false (fun h => by rw [e] at h; omega)]
  ·
   rw [if_pos h1, if_neg h2, decide_eq_false (fun h => by rw [e] at h; omega)]
 ·
  rw [if_neg h1, decide_eq_false (fun h => by rw [e] at h; omega)]
theorem bp (a c : Int) (h0 : 0 ≤ a) (h1 : a < 10007) (h2 : 0 ≤ c) (h3 : c < 10007) : 0 ≤ a * c ∧ a * c ≤ 100120036 :=
 ⟨Int.mul_nonneg h0 h2, Int.le_trans (Int.mul_le_mul (show a ≤ 10006 by omega) (show c ≤ 10006 by omega) h2 (by omega)) (by decide)⟩
theorem rmulF (a b c d : Int) (h : Gm.Ok (a, b)) (h2 : Gm.Ok (c, d)) : G5.f a b c d = some (Gm.mul (a, b) (c, d)) := by
 have p1 := bp a c h.1 h.2.1 h2.1 h2.2.1
 have p2 := bp b d h.2.2.1 h.2.2.2 h2.2.2.1 h2.2.2.2
 have p3 := bp a d h.1 h.2.1 h2.2.2.1 h2.2.2.2
 have p4 := bp b c h.2.2.1 h.2.2.2 h2.1 h2.2.1
 unfold G5.f Gm.mul Gm.gmul Gm.red
 rw [rmay, rmay]
 simp only [Option.bind_some, h, h2, decide_true, if_true]
 generalize a * c = u at *
 generalize b * d = v at *
 generalize a * d = s at *
 generalize b * c = t at *
 rw [wrap64_in u (by omega), wrap64_in v (by omega), wrap64_in s (by omega), wrap64_in t (by omega), wrap64_in (u + 100140049) (by omega), wrap64_in _ (by omega), wrap64_in _ (by omega), Int.tmod_eq_emod_of_nonneg (by omega), Int.tmod_eq_emod_of_nonneg (by omega)]
 congr 2
 omega
theorem rmulN (a b c d : Int) (h : ¬ (Gm.Ok (a, b) ∧ Gm.Ok (c, d))) : G5.f a b c d = some (0, 0) := by
 unfold G5.f
 rw [rmay, rmay]
 simp only [Option.bind_some, decide_eq_true_eq]
 by_cases h1 : Gm.Ok (a, b)
 ·
  rw [if_pos h1, if_neg (fun h2 => h ⟨h1, h2⟩)]
 ·
  rw [if_neg h1]
theorem raddF (a b c d : Int) (h : Gm.Ok (a, b)) (h2 : Gm.Ok (c, d)) : Ge.f a b c d = some (Gm.add (a, b) (c, d)) := by
 have h1' := h
 have h2' := h2
 unfold Gm.Ok at h1' h2'
 simp only at h1' h2'
 unfold Ge.f Gm.add Gm.gadd Gm.red
 rw [rmay, rmay]
 simp only [Option.bind_some, h, h2, decide_true, if_true]
 rw [wrap64_in _ (by omega), wrap64_in _ (by omega), Int.tmod_eq_emod_of_nonneg (by omega), Int.tmod_eq_emod_of_nonneg (by omega)]
theorem raddN (a b c d : Int) (h : ¬ (Gm.Ok (a, b) ∧ Gm.Ok (c, d))) : Ge.f a b c d = some (0, 0) := by
 unfold Ge.f
 rw [rmay, rmay]
 simp only [Option.bind_some, decide_eq_true_eq]
 by_cases h1 : Gm.Ok (a, b)
 ·
  rw [if_pos h1, if_neg (fun h2 => h ⟨h1, h2⟩)]
 ·
  rw [if_neg h1]
theorem rsubF (a b c d : Int) (h : Gm.Ok (a, b)) (h2 : Gm.Ok (c, d)) : Gg.f a b c d = some (Gm.sub (a, b) (c, d)) := by
 have h1' := h
 have h2' := h2
 unfold Gm.Ok at h1' h2'
 simp only at h1' h2'
 unfold Gg.f Gm.sub Gm.gsub Gm.red
 rw [rmay, rmay]
 simp only [Option.bind_some, h, h2, decide_true, if_true]
 rw [wrap64_in (a + 10007) (by omega), wrap64_in (b + 10007) (by omega), wrap64_in _ (by omega), wrap64_in _ (by omega), Int.tmod_eq_emod_of_nonneg (by omega), Int.tmod_eq_emod_of_nonneg (by omega)]
 congr 2 <;> omega
theorem rsubN (a b c d : Int) (h : ¬ (Gm.Ok (a, b) ∧ Gm.Ok (c, d))) : Gg.f a b c d = some (0, 0) := by
 unfold Gg.f
 rw [rmay, rmay]
 simp only [Option.bind_some, decide_eq_true_eq]
 by_cases h1 : Gm.Ok (a, b)
 ·
  rw [if_pos h1, if_neg (fun h2 => h ⟨h1, h2⟩)]
 ·
  rw [if_neg h1]
theorem qmul (x y : Gm.E) : G5.f x.1 x.2 y.1 y.2 = some (Fl.opE Gm.mul x y) := by
 unfold Fl.opE
 by_cases h : Gm.Ok x ∧ Gm.Ok y
 ·
  rw [if_pos h]; exact rmulF _ _ _ _ h.1 h.2
 ·
  rw [if_neg h]; exact rmulN _ _ _ _ h
theorem qadd (x y : Gm.E) : Ge.f x.1 x.2 y.1 y.2 = some (Fl.opE Gm.add x y) := by
 unfold Fl.opE
 by_cases h : Gm.Ok x ∧ Gm.Ok y
 ·
  rw [if_pos h]; exact raddF _ _ _ _ h.1 h.2
 ·
  rw [if_neg h]; exact raddN _ _ _ _ h
theorem qsub (x y : Gm.E) : Gg.f x.1 x.2 y.1 y.2 = some (Fl.opE Gm.sub x y) := by
 unfold Fl.opE
 by_cases h : Gm.Ok x ∧ Gm.Ok y
 ·
  rw [if_pos h]; exact rsubF _ _ _ _ h.1 h.2
 ·
  rw [if_neg h]; exact rsubN _ _ _ _ h
theorem rnormF (a b : Int) (h : Gm.Ok (a, b)) : Gy.f a b = some (Gm.norm (a, b)) := by
 have p1 := bp a a h.1 h.2.1 h.1 h.2.1
 have p2 := bp b b h.2.2.1 h.2.2.2 h.2.2.1 h.2.2.2
 unfold Gy.f Gm.norm
 rw [rmay]
 simp only [Option.bind_some, h, decide_true, if_true]
 rw [wrap64_in (a * a) (by omega), wrap64_in (b * b) (by omega), wrap64_in _ (by omega), Int.tmod_eq_emod_of_nonneg (by omega)]
theorem pm (x : Int) (n : Nat) : (x % 10007) ^ n % 10007 = x ^ n % 10007 := by
 induction n with
 | zero => simp
 | succ n ih => rw [Int.pow_succ, Int.pow_succ, Int.mul_emod, ih, Int.emod_emod_of_dvd _ (Int.dvd_refl _), ← Int.mul_emod]
def QQ : Nat := 10005
theorem wl (m : Nat) : ∀ (k : Nat) (x y : Int), m < 2 ^ k → m ≤ 10005 → 0 ≤ x → x < 10007 → 0 ≤ y → y < 10007 → Fk.l0 (k + 1) x y m = some (y * x ^ m % 10007) := by
 induction m using Nat.strongRecOn with
 | _ m ih =>
  intro k x y hk hm hx hx2 hy hy2
  rw [Fk.l0]
  by_cases h0 : m = 0
  ·
   subst h0
   rw [if_neg (by decide), Int.pow_zero, Int.mul_one, Int.emod_eq_of_lt hy hy2]
  ·
   rw [if_pos (by omega)]
   have p1 := bp x x hx hx2 hx hx2
   have p2 := bp y x hy hy2 hx hx2
   have e1 : Int.tdiv (m : Int) 2 = ((m / 2 : Nat) : Int) := by rw [Int.tdiv_eq_ediv_of_nonneg (by omega)]; omega
   have e2 : wrap64 ((m / 2 : Nat) : Int) = ((m / 2 : Nat) : Int) := wrap64_in _ (by omega)
   have e3 : Int.tmod (m : Int) 2 = ((m % 2 : Nat) : Int) := by rw [Int.tmod_eq_emod_of_nonneg (by omega)]; omega
   obtain ⟨k', rfl⟩ : ∃ k', k = k' + 1 := ⟨k - 1, by
    have : k ≠ 0 := by rintro rfl; simp at hk; omega
    omega⟩
   have hk' : m / 2 < 2 ^ k' := by rw [Nat.pow_succ] at hk; omega
   have sq : (x * x % 10007) ^ (m / 2) % 10007 = x ^ (2 * (m / 2)) % 10007 := by
    rw [Int.pow_mul, Int.pow_succ, Int.pow_succ, Int.pow_zero, Int.one_mul, pm]
   rw [e1, e2, e3, wrap64_in (x * x) (by omega), wrap64_in (y * x) (by omega), Int.tmod_eq_emod_of_nonneg p1.1, Int.tmod_eq_emod_of_nonneg p2.1]
   by_cases hodd : m % 2 = 1
   ·
    rw [if_pos (by omega)]
    refine (ih (m / 2) (by omega) k' _ _ hk' (by omega) (by omega) (by omega) (by omega) (by omega)).trans ?_
    have e : x ^ m = x * x ^ (2 * (m / 2)) := by
     have e : m = 2 * (m / 2) + 1 := by omega
     have e2 : x ^ m = x ^ (2 * (m / 2) + 1) := congrArg (fun n => x ^ n) e
     rw [e2, Int.pow_succ, Int.mul_comm]
    rw [e, ← Int.mul_assoc, Int.mul_emod, sq, ← Int.mul_emod, Int.mul_emod, Int.emod_emod_of_dvd _ (Int.dvd_refl _), ← Int.mul_emod]
   ·
    rw [if_neg (by omega)]
    refine (ih (m / 2) (by omega) k' _ _ hk' (by omega) (by omega) (by omega) hy hy2).trans ?_
    have e : m = 2 * (m / 2) := by omega
    have e' : x ^ m = x ^ (2 * (m / 2)) := congrArg (fun n => x ^ n) e
    rw [e', Int.mul_emod, sq, ← Int.mul_emod]
theorem whole (k : Nat) (n : Int) (h0 : 0 ≤ n) (h1 : n < 10007) : Fk.f (k + 15) n = some (n ^ QQ % 10007) := by
 unfold Fk.f
 refine (wl QQ (k + 14) n 1 (Nat.lt_of_lt_of_le (by decide : QQ < 2 ^ 14) (Nat.pow_le_pow_right (by decide) (by omega))) (Nat.le_refl _) h0 h1 (by decide) (by decide)).trans ?_
 rw [Int.one_mul]
theorem norm_inv {x : Gm.E} (h : Gm.Ok x) (h0 : x ≠ (0, 0)) : Gm.norm x * (Gm.norm x ^ QQ % 10007) % 10007 = 1 := by
 have hn : Gm.norm x % 10007 ≠ 0 := by
  intro e
  refine h0 (Gm.norm_zero h ?_)
  unfold Gm.norm at e ⊢
  omega
 have := Gm.fermat_one hn
 have e : Gm.norm x ^ 10006 = Gm.norm x * Gm.norm x ^ QQ := by
  rw [show (10006 : Nat) = QQ + 1 from rfl, Int.pow_succ, Int.mul_comm]
 rw [e] at this
 rw [Int.mul_emod, Int.emod_emod_of_dvd _ (Int.dvd_refl _), ← Int.mul_emod]
 omega
theorem rinv (a b : Int) (h : Gm.Ok (a, b)) (h0 : (a, b) ≠ ((0, 0) : Gm.E)) : Fh.j0 16 false a b = some ((Gm.pow (a, b) Gm.NN).1, (Gm.pow (a, b) Gm.NN).2, 0) := by
 have h' := h
 unfold Gm.Ok at h'
 simp only at h'
 have bn : 0 ≤ Gm.norm (a, b) ∧ Gm.norm (a, b) < 10007 := by unfold Gm.norm; omega
 rw [Fh.j0, if_neg (by decide), rnormF a b h, Option.bind_some, whole 0 _ bn.1 bn.2, Option.bind_some]
 have ni := norm_inv h h0
 generalize hq : Gm.norm (a, b) ^ QQ % 10007 = q at *
 have bq : 0 ≤ q ∧ q < 10007 := by omega
 have p1 := bp a q h'.1 h'.2.1 bq.1 bq.2
 have e0 : Int.tmod (wrap64 (10007 - b)) 10007 = -b % 10007 := by
  rw [wrap64_in _ (by omega), Int.tmod_eq_emod_of_nonneg (by omega)]; omega
 rw [e0]
 have p2 := bp (-b % 10007) q (by omega) (by omega) bq.1 bq.2
 rw [wrap64_in (a * q) (by omega), wrap64_in _ (by omega), Int.tmod_eq_emod_of_nonneg p1.1, Int.tmod_eq_emod_of_nonneg p2.1]
 have e : ((a * q % 10007, -b % 10007 * q % 10007) : Gm.E) = Gm.mul (Gm.conj (a, b)) (q, 0) := by
  unfold Gm.mul Gm.gmul Gm.conj Gm.red
  simp only [Int.mul_zero, Int.sub_zero, Int.zero_add]
  rw [Int.emod_eq_of_lt h'.1 h'.2.1]
 have e2 : Gm.mul (a, b) (Gm.mul (Gm.conj (a, b)) (q, 0)) = (1, 0) := by
  rw [← Gm.mul_assoc, Gm.mul_conj]
  unfold Gm.mul Gm.gmul Gm.red
  simp only [Int.mul_zero, Int.zero_mul, Int.sub_zero, Int.add_zero]
  rw [ni]
  rfl
 have e3 := Gm.inv_unique (Gm.pow_ok (a, b) Gm.NN) (Gm.mul_ok _ _) (Gm.mul_inv h h0) e2
 rw [e3, ← e]
theorem gI (a b : Int) (h : Gm.Ok (a, b)) (h0 : (a, b) ≠ ((0, 0) : Gm.E)) : Fh.f 16 a b = some ((Gm.pow (a, b) Gm.NN).1, (Gm.pow (a, b) Gm.NN).2, 0) := by
 unfold Fh.f
 rw [rmay, Option.bind_some, if_pos (by simpa using h)]
 by_cases h1 : a = 0
 ·
  have : (b == 0) = false := by
   rw [beq_eq_false_iff_ne]
   intro h2
   exact h0 (by rw [h1, h2])
  rw [if_pos h1, this]
  exact rinv a b h h0
 ·
  rw [if_neg h1]
  exact rinv a b h h0
theorem succ_ok {i n : Nat} (h : i < n) (hn : n ≤ 9223372036854775000) : wrap64 ((i : Int) + 1) = ((i + 1 : Nat) : Int) := by rw [wrap64_in _ (by omega)]; omega
theorem rd76 (s : List S76) {i : Nat} (hi : i < s.length) : ((rd_T76 s (i : Int)).f0, ((rd_T76 s (i : Int)).f1.f0, (rd_T76 s (i : Int)).f1.f1)) = (eS s).getD i (0, (0, 0)) := by
 unfold eS rd_T76
 simp [List.getElem?_eq_getElem hi]
theorem inv_ev (x : Gm.E) (h : Gm.Ok x) (h0 : x ≠ (0, 0)) : Evk (fun k => Fh.f k x.1 x.2) ((Gm.inv x).1, (Gm.inv x).2, 0) :=
 Evk.of_mono (f := fun k => Fh.f k x.1 x.2) (fun k r h => Fh.mono _ _ _ r h) (gI x.1 x.2 h h0)
theorem id43 (s : List S76) {i : Nat} (hi : i < s.length) : (rd_T76 s (i : Int)).f0 = Fl.idAt (eS s) i := congrArg (·.1) (rd76 s hi)
theorem v43 (s : List S76) {i : Nat} (hi : i < s.length) : ((rd_T76 s (i : Int)).f1.f0, (rd_T76 s (i : Int)).f1.f1) = Fl.vAt (eS s) i := congrArg (·.2) (rd76 s hi)
theorem apart_short {l : Fl.Row} (h : Fl.Apart l) : l.length ≤ 64 := by
 have hd : (l.map (·.1)).Nodup := by
  rw [List.nodup_iff_pairwise_ne, List.pairwise_iff_getElem]
  intro i j hi hj hij
  rw [List.length_map] at hi hj
  have := (h j hj).2.2 i hij
  unfold Fl.idAt at this
  rw [List.getD_eq_getElem?_getD, List.getD_eq_getElem?_getD, List.getElem?_eq_getElem hi, List.getElem?_eq_getElem hj] at this
  rw [List.getElem_map, List.getElem_map]
  exact this
 have := Fl.nodup_le 64 (l.map (·.1)) hd (fun x hx => by
  obtain ⟨i, hi, rfl⟩ := List.getElem_of_mem hx
  rw [List.length_map] at hi
  have := h i hi
  unfold Fl.idAt at this
  rw [List.getD_eq_getElem?_getD, List.getElem?_eq_getElem hi] at this
  rw [List.getElem_map]
  exact ⟨this.1, this.2.1⟩)
 rw [List.length_map] at this
 exact this
theorem ap_l1 (l : List S76) (hl : l.length ≤ 9223372036854775000) (r : Bool) (hF : ¬ Fl.Apart (eS l) → r = false) (i : Nat) (hi : i < l.length)
  (cont : (∀ t, t < i → Fl.idAt (eS l) t ≠ Fl.idAt (eS l) i) → Evk (fun k => F4.l0 k l ((i + 1 : Nat) : Int)) r) : ∀ (m j : Nat), j + m = i → (∀ t, t < j → Fl.idAt (eS l) t ≠ Fl.idAt (eS l) i) → Evk (fun k => F4.l1 k l (i : Int) (j : Int)) r
 | 0, j, hj, h => by
  refine (cont (fun t ht => h t (by omega))).step fun k => ?_
  rw [F4.l1, if_neg (by omega), succ_ok hi hl]
 | m + 1, j, hj, h => by
  by_cases e : Fl.idAt (eS l) j = Fl.idAt (eS l) i
  ·
   rw [hF (fun ha => (ha i (by rw [eS_length]; exact hi)).2.2 j (by omega) e)]
   refine Evk.step (g := fun _ => some false) (Evk.const fun _ => rfl) fun k => ?_
   rw [F4.l1, if_pos (by omega), if_pos (by omega), if_pos (by omega), if_pos (by omega), if_pos (by omega), id43 l (show j < l.length by omega), id43 l hi, if_pos e]
  ·
   refine (ap_l1 l hl r hF i hi cont m (j + 1) (by omega) (fun t ht => by
    by_cases e2 : t = j
    ·
     rw [e2]; exact e
    ·
     exact h t (by omega))).step fun k => ?_
   rw [F4.l1, if_pos (by omega), if_pos (by omega), if_pos (by omega), if_pos (by omega), if_pos (by omega), id43 l (show j < l.length by omega), id43 l hi, if_neg e, succ_ok (show j < l.length by omega) hl]
theorem ap_l0 (l : List S76) (hl : l.length ≤ 9223372036854775000) (r : Bool) (hT : Fl.Apart (eS l) → r = true) (hF : ¬ Fl.Apart (eS l) → r = false) : ∀ (m i : Nat), i + m = l.length → (∀ j, j < i → 1 ≤ Fl.idAt (eS l) j ∧ Fl.idAt (eS l) j ≤ 64 ∧ ∀ t, t < j → Fl.idAt (eS l) t ≠ Fl.idAt (eS l) j) → Evk (fun k => F4.l0 k l (i : Int)) r
 | 0, i, hi, h => by
  rw [hT (fun j hj => h j (by rw [eS_length] at hj; omega))]
  refine Evk.step (g := fun _ => some true) (Evk.const fun _ => rfl) fun k => ?_
  rw [F4.l0, if_neg (by omega)]
 | m + 1, i, hi, h => by
  have hin : i < l.length := by omega
  by_cases hb : 1 ≤ Fl.idAt (eS l) i ∧ Fl.idAt (eS l) i ≤ 64
  ·
   have h1 := ap_l1 l hl r hF i hin (fun ht => ap_l0 l hl r hT hF m (i + 1) (by omega) (fun j hj => by
    by_cases e : j = i
    ·
     subst e; exact ⟨hb.1, hb.2, ht⟩
    ·
     exact h j (by omega))) i 0 (by omega) (fun t ht => by omega)
   refine (h1.step (f := fun k => F4.j1 k l (i : Int) false) fun k => by rw [F4.j1, if_neg (by decide)]; rfl).step fun k => ?_
   rw [F4.l0, if_pos (by omega), if_pos (by omega), id43 l hin, if_neg (by omega), show decide (Fl.idAt (eS l) i > 64) = false from decide_eq_false (by omega)]
  ·
   rw [hF (fun ha => hb ⟨(ha i (by rw [eS_length]; exact hin)).1, (ha i (by rw [eS_length]; exact hin)).2.1⟩)]
   refine Evk.step (g := fun k => F4.j1 k l (i : Int) true) (Evk.step (g := fun _ => some false) (Evk.const fun _ => rfl) fun k => by rw [F4.j1, if_pos rfl]) fun k => ?_
   rw [F4.l0, if_pos (by omega), if_pos (by omega), id43 l hin]
   by_cases h1 : Fl.idAt (eS l) i < 1
   ·
    rw [if_pos h1]
   ·
    rw [if_neg h1, show decide (Fl.idAt (eS l) i > 64) = true from decide_eq_true (by omega)]
theorem ap_ev (l : List S76) (hl : l.length ≤ 9223372036854775000) : Evk (fun k => F4.f k l) (Fl.apB (eS l)) := by
 by_cases h : (l.length : Int) > 64
 ·
  have : Fl.apB (eS l) = false := by
   cases e : Fl.apB (eS l) with
   | false => rfl
   | true =>
    have := apart_short ((Fl.apB_iff _).1 e)
    rw [eS_length] at this
    omega
  rw [this]
  exact Evk.const fun k => by unfold F4.f; rw [if_pos h]
 ·
  refine (ap_l0 l hl (Fl.apB (eS l)) (fun ha => (Fl.apB_iff _).2 ha) (fun ha => by
   cases e : Fl.apB (eS l) with
   | false => rfl
   | true => exact absurd ((Fl.apB_iff _).1 e) ha) l.length 0 (by omega) (fun j hj => by omega)).of_eq fun k => ?_
  unfold F4.f
  rw [if_neg h]
  rfl
def ov (l : Fl.Row) (k i : Nat) : Gm.E := if i = k then (1, 0) else Fl.xAt l i
def un (l : Fl.Row) (k i : Nat) : Gm.E := if i = k then (1, 0) else Gm.sub (Fl.xAt l i) (Fl.xAt l k)
theorem un_ne {l : Fl.Row} (h : Fl.Apart l) {k : Nat} (hk : k < l.length) : Gm.pr (un l k) l.length ≠ (0, 0) := by
 refine Gm.pr_ne (fun i hi => ?_) (fun i hi => ?_)
 ·
  unfold un
  by_cases e : i = k
  ·
   rw [if_pos e]; exact Gm.one_ok
  ·
   rw [if_neg e]; exact Gm.sub_ok _ _
 ·
  unfold un
  by_cases e : i = k
  ·
   rw [if_pos e]; decide
  ·
   rw [if_neg e]; exact Fl.sub_ne (h.x_ok i hi) (h.x_ok k hk) (fun x => e (h.inj i k hi hk x))
theorem lag_frac {l : Fl.Row} (h : Fl.Apart l) {k : Nat} (hk : k < l.length) : Gm.mul (Gm.pr (ov l k) l.length) (Gm.inv (Gm.pr (un l k) l.length)) = Gm.lag (Fl.xAt l) l.length (0, 0) k := by
 have e : Gm.pr (ov l k) l.length = Gm.mul (Gm.lag (Fl.xAt l) l.length (0, 0) k) (Gm.pr (un l k) l.length) := by
  unfold Gm.lag
  rw [← Gm.pr_mul]
  refine Gm.pr_congr fun i hi => ?_
  unfold ov un Gm.fac
  by_cases e : i = k
  ·
   rw [if_pos e, if_pos e, if_pos e]; decide
  ·
   rw [if_neg e, if_neg e, if_neg e, Gm.sub_zero (h.x_ok i hi), Gm.mul_assoc, Gm.mul_comm (Gm.inv _), Gm.mul_inv' (Gm.sub_ok _ _) (Fl.sub_ne (h.x_ok i hi) (h.x_ok k hk) (fun x => e (h.inj i k hi hk x))), Gm.mul_one (h.x_ok i hi)]
 rw [e, Gm.mul_assoc, Gm.mul_inv' (Gm.pr_ok _ _) (un_ne h hk), Gm.mul_one (Fl.lag_ok _ _ _ _)]
theorem rw_l0 (l : List S76) (hl : l.length ≤ 9223372036854775000) (hap : Fl.Apart (eS l)) (a : Nat) (ha : a < l.length) : ∀ (m i : Nat), i + m = l.length →
  Evk (fun k => Fd.l0 k l (a : Int) (i : Int) (Gm.pr (ov (eS l) a) i).1 (Gm.pr (ov (eS l) a) i).2 (Gm.pr (un (eS l) a) i).1 (Gm.pr (un (eS l) a) i).2) ((Fl.wtE (eS l) a).1, (Fl.wtE (eS l) a).2, 0)
 | 0, i, hi => by
  have hSl := eS_length l
  obtain ⟨ki, hi2⟩ := inv_ev (Gm.pr (un (eS l) a) i) (Gm.pr_ok _ _) (by rw [show i = (eS l).length by omega]; exact un_ne hap (by omega))
  have hi2 : ∀ k, ki ≤ k → Fh.f k _ _ = _ := hi2
  refine ⟨ki + 1, fun k hk => ?_⟩
  obtain ⟨k', rfl⟩ : ∃ k', k = k' + 1 := ⟨k - 1, by omega⟩
  show Fd.l0 (k' + 1) l (a : Int) (i : Int) _ _ _ _ = _
  rw [Fd.l0, if_neg (by omega), hi2 k' (by omega), Option.bind_some]
  simp only
  rw [qmul, Option.bind_some, Fl.opE_of (Gm.pr_ok _ _) (Gm.inv_ok _), show i = (eS l).length by omega, lag_frac hap (by omega), Fl.wtE_lag hap (by omega)]
 | m + 1, i, hi => by
  have hSl := eS_length l
  have hin : i < l.length := by omega
  have ih := rw_l0 l hl hap a ha m (i + 1) (by omega)
  refine ih.step fun k => ?_
  rw [Fd.l0, if_pos (by omega), succ_ok hin hl, Gm.pr, Gm.pr]
  by_cases e : i = a
  ·
   rw [if_pos (by omega), show ov (eS l) a i = (1, 0) from if_pos e, show un (eS l) a i = (1, 0) from if_pos e, Gm.mul_one (Gm.pr_ok _ _), Gm.mul_one (Gm.pr_ok _ _)]
  ·
   have ox := hap.x_ok i (by omega)
   have oa := hap.x_ok a (by omega)
   have q1 := qmul (Gm.pr (ov (eS l) a) i) (Fl.xAt (eS l) i)
   have q2 := qsub (Fl.xAt (eS l) i) (Fl.xAt (eS l) a)
   rw [Fl.opE_of (Gm.pr_ok _ _) ox] at q1
   rw [Fl.opE_of ox oa] at q2
   have x1 : (Fl.xAt (eS l) i).1 = Fl.idAt (eS l) i := rfl
   have x2 : (Fl.xAt (eS l) i).2 = 0 := rfl
   have y1 : (Fl.xAt (eS l) a).1 = Fl.idAt (eS l) a := rfl
   have y2 : (Fl.xAt (eS l) a).2 = 0 := rfl
   rw [x1, x2] at q1
   rw [x1, x2, y1, y2] at q2
   rw [if_neg (by omega), if_pos (by omega), id43 l hin, id43 l ha, q1, Option.bind_some, if_pos (by omega), if_pos (by omega), q2, Option.bind_some, qmul, Option.bind_some, Fl.opE_of (Gm.pr_ok _ _) (Gm.sub_ok _ _), show ov (eS l) a i = Fl.xAt (eS l) i from if_neg e, show un (eS l) a i = Gm.sub (Fl.xAt (eS l) i) (Fl.xAt (eS l) a) from if_neg e]
def wR (l : List S76) (a : Int) : Int × Int × Int := if Fl.apB (eS l) = true ∧ 0 ≤ a ∧ a < (l.length : Int) then ((Fl.wtE (eS l) a.toNat).1, (Fl.wtE (eS l) a.toNat).2, 0) else (0, 0, 1)
theorem rw_ev (l : List S76) (hl : l.length ≤ 9223372036854775000) (a : Int) : Evk (fun k => Fd.f k l a) (wR l a) := by
 have hno : Evk (fun k => Fd.j0 k l a true) (0, 0, 1) := Evk.step (g := fun _ => some (0, 0, 1)) (Evk.const fun _ => rfl) fun k => by rw [Fd.j0, if_pos rfl]
 refine Evk.bind (f := fun k => F4.f k l) (g := fun k t => if t = true then (if a < 0 then (Fd.j0 k l a true) else (Fd.j0 k l a (decide (a ≥ (l.length : Int))))) else (Fd.j0 k l a true)) (ap_ev l hl) ?_
 unfold wR
 by_cases h1 : Fl.apB (eS l) = true
 ·
  by_cases h2 : a < 0
  ·
   rw [if_neg (by rintro ⟨_, h, _⟩; omega)]
   exact hno.of_eq fun k => by rw [if_pos h1, if_pos h2]
  ·
   by_cases h3 : a ≥ (l.length : Int)
   ·
    rw [if_neg (by rintro ⟨_, _, h⟩; omega)]
    exact hno.of_eq fun k => by rw [if_pos h1, if_neg h2, decide_eq_true h3]
   ·
    rw [if_pos ⟨h1, by omega, by omega⟩]
    obtain ⟨n, rfl⟩ := Int.eq_ofNat_of_zero_le (show 0 ≤ a by omega)
    rw [Int.toNat_natCast]
    refine (Evk.step (f := fun k => Fd.j0 k l (n : Int) false) (rw_l0 l hl ((Fl.apB_iff _).1 h1) n (by omega) l.length 0 (by omega)) fun k => ?_).of_eq fun k => by rw [if_pos h1, if_neg h2, decide_eq_false h3]
    rw [Fd.j0, if_neg (by decide)]
    rfl
 ·
  rw [if_neg (by rintro ⟨h, _⟩; exact h1 h)]
  exact hno.of_eq fun k => by rw [if_neg h1]
theorem ro_a (l : List S76) (hl : l.length ≤ 9223372036854775000) (hap : Fl.Apart (eS l)) (hok : ∀ i, i < (eS l).length → Gm.Ok (Fl.vAt (eS l) i)) (g : Nat → Gm.E) (hg : ∀ i, i < l.length → g i = Gm.mul (Fl.vAt (eS l) i) (Fl.wtE (eS l) i)) : ∀ (m i : Nat), i + m = l.length →
  Evk (fun k => F9.l0 k l (i : Int) (Gm.sm g i).1 (Gm.sm g i).2) ((Gm.sm g l.length).1, (Gm.sm g l.length).2, 0)
 | 0, i, hi => by
  refine Evk.step (g := fun _ => some ((Gm.sm g l.length).1, (Gm.sm g l.length).2, 0)) (Evk.const fun _ => rfl) fun k => ?_
  rw [F9.l0, if_neg (by omega), show i = l.length by omega]
 | m + 1, i, hi => by
  have hSl := eS_length l
  have hin : i < l.length := by omega
  have ih := ro_a l hl hap hok g hg m (i + 1) (by omega)
  have hw := rw_ev l hl (i : Int)
  rw [show wR l (i : Int) = ((Fl.wtE (eS l) i).1, (Fl.wtE (eS l) i).2, 0) from by unfold wR; rw [if_pos ⟨(Fl.apB_iff _).2 hap, by omega, by omega⟩, Int.toNat_natCast]] at hw
  have ow : Gm.Ok (Fl.wtE (eS l) i) := by rw [Fl.wtE_lag hap (by omega)]; exact Fl.lag_ok _ _ _ _
  have q1 := qmul (Fl.vAt (eS l) i) (Fl.wtE (eS l) i)
  rw [Fl.opE_of (hok i (by omega)) ow] at q1
  have e1 : (Fl.vAt (eS l) i).1 = (rd_T76 l (i : Int)).f1.f0 := by rw [← v43 l hin]
  have e2 : (Fl.vAt (eS l) i).2 = (rd_T76 l (i : Int)).f1.f1 := by rw [← v43 l hin]
  rw [e1, e2] at q1
  obtain ⟨kw, hw⟩ := hw
  obtain ⟨kh, ih⟩ := ih
  have hw : ∀ k, kw ≤ k → Fd.f k l (i : Int) = _ := hw
  have ih : ∀ k, kh ≤ k → F9.l0 k l ((i + 1 : Nat) : Int) _ _ = _ := ih
  refine ⟨max kw kh + 1, fun k hk => ?_⟩
  obtain ⟨k', rfl⟩ : ∃ k', k = k' + 1 := ⟨k - 1, by omega⟩
  show F9.l0 (k' + 1) l (i : Int) _ _ = _
  rw [F9.l0, if_pos (by omega), if_pos (by omega), rmay, Option.bind_some, v43 l hin, if_pos (by simpa using hok i (by omega)), hw k' (by omega), Option.bind_some]
  simp only
  rw [q1, Option.bind_some, qadd, Option.bind_some, Fl.opE_of (Gm.sm_ok _ _) (Gm.mul_ok _ _), succ_ok hin hl, ← hg i hin]
  exact ih k' (by omega)
theorem ro_b (l : List S76) (hl : l.length ≤ 9223372036854775000) : ∀ (m i : Nat) (o : Gm.E), i + m = l.length → (∃ j, i ≤ j ∧ j < l.length ∧ ¬ Gm.Ok (Fl.vAt (eS l) j)) → Evk (fun k => F9.l0 k l (i : Int) o.1 o.2) (0, 0, 1)
 | 0, i, o, hi, h => by obtain ⟨j, h1, h2, _⟩ := h; omega
 | m + 1, i, o, hi, h => by
  have hin : i < l.length := by omega
  by_cases ok : Gm.Ok (Fl.vAt (eS l) i)
  ·
   obtain ⟨j, h1, h2, h3⟩ := h
   have hne : j ≠ i := by rintro rfl; exact h3 ok
   obtain ⟨kw, hw⟩ := rw_ev l hl (i : Int)
   have hw : ∀ k, kw ≤ k → Fd.f k l (i : Int) = _ := hw
   obtain ⟨kh, ih⟩ := ro_b l hl m (i + 1) (Fl.opE Gm.add o (Fl.opE Gm.mul ((rd_T76 l (i : Int)).f1.f0, (rd_T76 l (i : Int)).f1.f1) ((wR l (i : Int)).1, (wR l (i : Int)).2.1))) (by omega) ⟨j, by omega, h2, h3⟩
   have ih : ∀ k, kh ≤ k → F9.l0 k l ((i + 1 : Nat) : Int) _ _ = _ := ih
   refine ⟨max kw kh + 1, fun k hk => ?_⟩
   obtain ⟨k', rfl⟩ : ∃ k', k = k' + 1 := ⟨k - 1, by omega⟩
   show F9.l0 (k' + 1) l (i : Int) _ _ = _
   have q1 := qmul ((rd_T76 l (i : Int)).f1.f0, (rd_T76 l (i : Int)).f1.f1) ((wR l (i : Int)).1, (wR l (i : Int)).2.1)
   simp only at q1
   rw [F9.l0, if_pos (by omega), if_pos (by omega), rmay, Option.bind_some, v43 l hin, if_pos (by simpa using ok), hw k' (by omega), Option.bind_some, q1, Option.bind_some, qadd, Option.bind_some, succ_ok hin hl]
   exact ih k' (by omega)
  ·
   refine Evk.step (g := fun _ => some (0, 0, 1)) (Evk.const fun _ => rfl) fun k => ?_
   rw [F9.l0, if_pos (by omega), if_pos (by omega), rmay, Option.bind_some, v43 l hin, if_neg (by simpa using ok)]
theorem ro_ev (l : List S76) (hl : l.length ≤ 9223372036854775000) : Evk (fun k => F9.f k l) ((Fl.openE (eS l) (Fl.wtE (eS l))).1.1, (Fl.openE (eS l) (Fl.wtE (eS l))).1.2, (Fl.openE (eS l) (Fl.wtE (eS l))).2) := by
 have hSl := eS_length l
 have hno : Evk (fun k => F9.j0 k l true) (0, 0, 1) := Evk.step (g := fun _ => some (0, 0, 1)) (Evk.const fun _ => rfl) fun k => by rw [F9.j0, if_pos rfl]
 refine Evk.bind (f := fun k => F4.f k l) (g := fun k t => if t = true then (F9.j0 k l ((l.length : Int) == 0)) else (F9.j0 k l true)) (ap_ev l hl) ?_
 by_cases h : (eS l).length ≠ 0 ∧ Fl.Apart (eS l) ∧ ∀ i, i < (eS l).length → Gm.Ok (Fl.vAt (eS l) i)
 ·
  obtain ⟨h0, hap, hok⟩ := h
  have hb : ((l.length : Int) == 0) = false := by rw [beq_eq_false_iff_ne]; omega
  rw [Fl.openE_yes h0 hap hok]
  have ha := ro_a l hl hap hok (fun k => Gm.mul (Fl.vAt (eS l) k) (Fl.wtE (eS l) k)) (fun _ _ => rfl) l.length 0 (by omega)
  have e : Gm.sm (fun k => Gm.mul (Fl.vAt (eS l) k) (Fl.wtE (eS l) k)) l.length = Fl.secret (eS l) := by
   unfold Fl.secret
   rw [hSl]
   exact Gm.sm_congr fun i hi => by rw [Fl.wtE_lag hap (by omega), hSl]
  rw [e] at ha
  refine (ha.step (f := fun k => F9.j0 k l false) fun k => ?_).of_eq fun k => by rw [(Fl.apB_iff _).2 hap, if_pos rfl, hb]
  rw [F9.j0, if_neg (by decide)]
  rfl
 ·
  rw [Fl.openE_no h]
  by_cases h1 : Fl.apB (eS l) = true
  ·
   by_cases h0 : l.length = 0
   ·
    exact hno.of_eq fun k => by rw [if_pos h1, show ((l.length : Int) == 0) = true from by rw [h0]; rfl]
   ·
    have hb : ((l.length : Int) == 0) = false := by rw [beq_eq_false_iff_ne]; omega
    have hbad : ∃ j, 0 ≤ j ∧ j < l.length ∧ ¬ Gm.Ok (Fl.vAt (eS l) j) := by
     refine Classical.byContradiction fun hn => h ⟨by omega, (Fl.apB_iff _).1 h1, fun i hi => Classical.byContradiction fun ho => hn ⟨i, Nat.zero_le _, by omega, ho⟩⟩
    refine ((ro_b l hl l.length 0 (0, 0) (by omega) hbad).step (f := fun k => F9.j0 k l false) fun k => ?_).of_eq fun k => by rw [if_pos h1, hb]
    rw [F9.j0, if_neg (by decide)]
    rfl
  ·
   exact hno.of_eq fun k => by rw [if_neg h1]
theorem r_round_l (L : List S32) (n low r : Int) (hl : L.length ≤ 1000000) : ∀ (m i : Nat), i + m = L.length → Evk (fun k => F2.l0 k r (roundC (L.take i) r) (i : Int) n low L) (roundC L r)
 | 0, i, hi => by
  refine Evk.step (g := fun _ => some (roundC L r)) (Evk.const fun _ => rfl) fun k => ?_
  rw [F2.l0, if_neg (by omega), List.take_of_length_le (by omega)]
 | m + 1, i, hi => by
  have hlt : i < L.length := by omega
  have ih := r_round_l L n low r hl m (i + 1) (by omega)
  have w1 : wrap64 ((i : Int) + 1) = ((i + 1 : Nat) : Int) := by rw [wrap64_in _ (by omega)]; omega
  rw [List.take_succ_eq_append_getElem hlt, roundC_snoc] at ih
  refine ih.step fun k => ?_
  rw [F2.l0, if_pos (by omega), if_pos (by omega), rd32 L hlt, w1]
  by_cases h : L[i].f1.f1 = r
  ·
   rw [if_pos h, if_pos h, if_pos (by have := roundC_len (L.take i) r; rw [List.length_take] at this; omega)]
  ·
   rw [if_neg h, if_neg h]
theorem r_round (L : List S32) (n low r : Int) (hl : L.length ≤ 1000000) : Evk (fun k => F2.f k n low L r) (roundC L r) :=
 (r_round_l L n low r hl L.length 0 (by omega)).of_eq fun k => by unfold F2.f; rfl
theorem r_rev_l (X L : List S32) (n low : Int) (hl : X.length ≤ 1000000) (v : Nat) (hv : v ≤ X.length) : ∀ (m i : Nat), i + m = v → Evk (fun k => Fa.l0 k X (v : Int) ((X.take i).map shC) (i : Int) n low L) (openC ((X.take v).map shC) n)
 | 0, i, hi => by
  have ho := ro_ev ((X.take v).map shC) (by rw [List.length_map, List.length_take]; omega)
  refine Evk.step (ho.bind (g := fun k bt243 => (if bt243.2.2 = 0 then ((Gl.f bt243.1 bt243.2.1 n).bind fun t247 => (some (t247, 0))) else (some (0, bt243.2.2)))) ?_) fun k => ?_
  ·
   unfold openC
   by_cases h : (Fl.openE (eS ((X.take v).map shC)) (Fl.wtE (eS ((X.take v).map shC)))).2 = 0
   ·
    rw [if_pos h]
    exact Evk.const fun k => by simp only; rw [if_pos h, c_rlead]; rfl
   ·
    rw [if_neg h]
    exact Evk.const fun k => by simp only; rw [if_neg h]
  ·
   rw [Fa.l0, if_neg (by omega), show i = v by omega]
 | m + 1, i, hi => by
  have hlt : i < X.length := by omega
  have ih := r_rev_l X L n low hl v hv m (i + 1) (by omega)
  have w1 : wrap64 ((i : Int) + 1) = ((i + 1 : Nat) : Int) := by rw [wrap64_in _ (by omega)]; omega
  rw [List.take_succ_eq_append_getElem hlt, List.map_append] at ih
  refine ih.step fun k => ?_
  rw [Fa.l0, if_pos (by omega), if_pos (by omega), if_pos (by omega), if_pos (by rw [List.length_map, List.length_take]; omega), rd32 X hlt, w1]
  rfl
theorem r_rev (L : List S32) (n low wave : Int) (hl : L.length ≤ 1000000) : Evk (fun k => Fa.f k n low L wave) (revC n L wave) := by
 have hno : Evk (fun k => Fa.j0 k wave true n low L) (0, 1) := Evk.step (g := fun _ => some (0, 1)) (Evk.const fun _ => rfl) fun k => by rw [Fa.j0, if_pos rfl]
 unfold revC
 by_cases h1 : wave < 1
 ·
  rw [if_pos (.inl h1)]
  exact hno.of_eq fun k => by unfold Fa.f; rw [c_rmay, Option.bind_some, if_pos h1]
 ·
  by_cases h2 : 1048576 < wave
  ·
   rw [if_pos (.inr (.inl h2))]
   exact hno.of_eq fun k => by unfold Fa.f; rw [c_rmay, Option.bind_some, if_neg h1, if_pos h2]
  ·
   cases hn : mayC n with
   | false =>
    rw [if_pos (.inr (.inr rfl))]
    exact hno.of_eq fun k => by unfold Fa.f; rw [c_rmay, Option.bind_some, if_neg h1, if_neg h2, hn]; rfl
   | true =>
    rw [if_neg (by rintro (h | h | h) <;> first | omega | cases h)]
    have hr := r_round L n low (3 * wave) hl
    have hj : Evk (fun k => Fa.j0 k wave false n low L) (if (roundC L (3 * wave)).length < weakC n then (0, 12) else openC (((roundC L (3 * wave)).take (weakC n)).map shC) n) := by
     refine Evk.step (hr.bind (g := fun k t234 => ((G9.f n).bind fun t237 => (if (t234.length : Int) < t237 then (some (0, 12)) else (Fa.l0 k t234 t237 ([] : List (S76)) 0 n low L)))) ?_) fun k => ?_
     ·
      by_cases h3 : (roundC L (3 * wave)).length < weakC n
      ·
       rw [if_pos h3]
       exact Evk.const fun k => by rw [c_rweak, Option.bind_some, if_pos (by omega)]
      ·
       rw [if_neg h3]
       have hR := roundC_len L (3 * wave)
       refine (r_rev_l (roundC L (3 * wave)) L n low (by omega) (weakC n) (by omega) _ 0 (Nat.zero_add _)).of_eq fun k => ?_
       rw [c_rweak, Option.bind_some, if_neg (by omega)]
       rfl
     ·
      rw [Fa.j0, if_neg (by decide), wrap64_in _ (by omega)]
    exact hj.of_eq fun k => by unfold Fa.f; rw [c_rmay, Option.bind_some, if_neg h1, if_neg h2, hn]; rfl
structure Fine13 (l : List SE) : Prop where
 few : l.length ≤ 60
 ro : ∀ x ∈ l, x.f1.f1 ≤ 60
 ps : ∀ x ∈ l, x.f1.f3.length ≤ 1099511627776
def fineB (l : List SE) : Bool := decide (l.length ≤ 60) && l.all (fun x => decide (x.f1.f1 ≤ 60)) && l.all (fun x => decide (x.f1.f3.length ≤ 100))
theorem fine13_of (l : List SE) (h : fineB l = true) : Fine13 l := by
 unfold fineB at h
 rw [Bool.and_eq_true, Bool.and_eq_true, List.all_eq_true, List.all_eq_true] at h
 exact ⟨of_decide_eq_true h.1.1, fun x hx => of_decide_eq_true (h.1.2 x hx), fun x hx => by have := of_decide_eq_true (h.2 x hx); omega⟩
def waveC (r : Int) : Int := if r < 1 then 0 else (r - 1) / 3 + 1
theorem c_wave (r : Int) (h : r ≤ 60) : Gz.f r = some (waveC r) := by
 unfold Gz.f waveC
 by_cases h1 : r < 1
 ·
  rw [if_pos h1, if_pos h1]
 ·
  rw [if_neg h1, if_neg h1, w64 (r - 1) (by omega) (by omega), Int.tdiv_eq_ediv_of_nonneg (by omega), w64 ((r - 1) / 3) (by omega) (by omega), w64 _ (by omega) (by omega)]
theorem r_wave (r : Int) (h : r ≤ 60) : Gn.f r = some (waveC r) := by
 unfold Gn.f waveC
 by_cases h1 : r < 1
 ·
  rw [if_pos h1, if_pos h1]
 ·
  rw [if_neg h1, if_neg h1, Int.tmod_eq_emod_of_nonneg (by omega), Int.tdiv_eq_ediv_of_nonneg (by omega), w64 (r / 3) (by omega) (by omega), w64 (r / 3 + 1) (by omega) (by omega)]
  by_cases h2 : r % 3 = 0
  ·
   rw [if_pos h2]; congr 1; omega
  ·
   rw [if_neg h2]; congr 1; omega
def topS (T : Int) : List SE → Int
 | [] => T
 | x :: r => topS (mx T (waveC x.f1.f1)) r
theorem mx_gt (a b : Int) : (if b > a then b else a) = mx a b := rfl
theorem top_l {l : List SE} (hf : Fine13 l) : ∀ (n i : Nat) (T : Int), i + n = l.length → Evk (fun k => Fs.l0 k T l (l.length : Int) (i : Int)) (topS T (l.drop i))
 | 0, i, T, h => by
  rw [List.drop_eq_nil_of_le (by omega)]
  exact Evk.step (Evk.ret T) (fun k => by rw [Fs.l0, if_neg (by omega)])
 | n + 1, i, T, h => by
  have hi : i < l.length := by omega
  have hl := hf.few
  rw [List.drop_eq_getElem_cons hi]
  exact Evk.step (top_l hf n (i + 1) (mx T (waveC (l[i]).f1.f1)) (by omega)) (fun k => by rw [Fs.l0, if_pos (by omega), if_pos (by omega), if_pos (by omega), rdE_eq l i hi, c_wave _ (hf.ro _ (List.getElem_mem hi)), Option.bind_some, ws i (by omega)])
theorem rtop_l {l : List SE} (hf : Fine13 l) (a b : Int) : ∀ (n i : Nat) (T : Int), i + n = l.length → Evk (fun k => G0.l0 k T (i : Int) a b l) (topS T (l.drop i))
 | 0, i, T, h => by
  rw [List.drop_eq_nil_of_le (by omega)]
  exact Evk.step (Evk.ret T) (fun k => by rw [G0.l0, if_neg (by omega)])
 | n + 1, i, T, h => by
  have hi : i < l.length := by omega
  have hl := hf.few
  rw [List.drop_eq_getElem_cons hi]
  have ih := rtop_l hf a b n (i + 1) (mx T (waveC (l[i]).f1.f1)) (by omega)
  refine Evk.step ih (fun k => ?_)
  rw [G0.l0, if_pos (by omega), if_pos (by omega), rdE_eq l i hi, r_wave _ (hf.ro _ (List.getElem_mem hi)), Option.bind_some, ws i (by omega), ← mx_gt]
  by_cases h1 : waveC (l[i]).f1.f1 > T
  ·
   rw [if_pos h1, if_pos h1]
  ·
   rw [if_neg h1, if_neg h1]
theorem c_top {l : List SE} (hf : Fine13 l) (a b : Int) : Evk (fun k => Fs.f k a b l) (topS 0 l) := Evk.of_eq (top_l hf l.length 0 0 (by omega)) (fun k => by unfold Fs.f; rfl)
theorem r_top {l : List SE} (hf : Fine13 l) (a b : Int) : Evk (fun k => G0.f k a b l) (topS 0 l) := Evk.of_eq (rtop_l hf a b l.length 0 0 (by omega)) (fun k => by unfold G0.f; rfl)
def cntP (m : List SE) (dg : ByteArray) : Nat := (m.filter (fun y => y.f1.f3.contains dg)).length
theorem cntP_cons (x : SE) (m : List SE) (dg : ByteArray) : (cntP (x :: m) dg : Int) = (if x.f1.f3.contains dg = true then 1 else 0) + (cntP m dg : Int) := by
 unfold cntP
 rw [List.filter_cons]
 by_cases h : x.f1.f3.contains dg = true
 ·
  rw [if_pos h, if_pos h, List.length_cons]; omega
 ·
  rw [if_neg h, if_neg h]; omega
theorem support_l (m : List SE) (hm : m.length ≤ 60) (hp : ∀ x ∈ m, x.f1.f3.length ≤ 1099511627776) (dg : ByteArray) (g1 g2 : Int) (g3 : List S107) (g4 : List ByteArray) (g5 g6 : Int) : ∀ (n i : Nat) (s : Int), i + n = m.length → 0 ≤ s → s ≤ i → Evk (fun k => Ft.l0 k s m (m.length : Int) (i : Int) dg g1 g2 g3 g4 g5 g6) (s + (cntP (m.drop i) dg : Int))
 | 0, i, s, h, h0, h1 => by
  rw [List.drop_eq_nil_of_le (by omega)]
  refine Evk.step (Evk.ret _) (fun k => ?_)
  rw [Ft.l0, if_neg (by omega)]
  simp [cntP]
 | n + 1, i, s, h, h0, h1 => by
  have hi : i < m.length := by omega
  have hc := contains_ev (m[i]).f1.f3 (hp _ (List.getElem_mem hi)) dg
  rw [List.drop_eq_getElem_cons hi, cntP_cons]
  refine evk_succ ?_
  have c1 : ((i : Int) < (m.length : Int)) = True := eq_true (by omega)
  have c2 : (0 ≤ (i : Int)) = True := eq_true (by omega)
  simp only [Ft.l0, c1, c2, if_true, rdE_eq m i hi]
  refine Evk.bind hc ?_
  cases hb : (m[i]).f1.f3.contains dg with
  | true =>
   have ih := support_l m hm hp dg g1 g2 g3 g4 g5 g6 n (i + 1) (s + 1) (by omega) (by omega) (by omega)
   refine Evk.of_eq ?_ (fun k => if_pos rfl)
   rw [if_pos rfl, ws i (by omega), w64 (s + 1) (by omega) (by omega), ← Int.add_assoc]
   exact ih
  | false =>
   have ih := support_l m hm hp dg g1 g2 g3 g4 g5 g6 n (i + 1) s (by omega) (by omega) (by omega)
   refine Evk.of_eq ?_ (fun k => if_neg (by decide))
   rw [if_neg (by decide), ws i (by omega), Int.zero_add]
   exact ih
def suppC (l : List SE) (dg : ByteArray) (ro : Int) : Nat := cntP (roundC l (wrap64 (ro + 1))) dg
theorem support_ev {l : List SE} (hf : Fine13 l) (a b : Int) (dg : ByteArray) (au ro : Int) (g3 : List S107) (g4 : List ByteArray) (g5 g6 : Int) : Evk (fun k => Ft.f k a b l dg au ro g3 g4 g5 g6) (suppC l dg ro : Int) := by
 have hl := hf.few
 have hr := roundC_len l (wrap64 (ro + 1))
 refine Evk.of_eq (Evk.bind (c_round l a b (wrap64 (ro + 1)) (by omega)) ?_) (fun k => by unfold Ft.f; rfl)
 have h := support_l (roundC l (wrap64 (ro + 1))) (by omega) (fun x hx => hf.ps x (List.mem_filter.1 hx).1) dg au ro g3 g4 g5 g6 _ 0 0 (Nat.zero_add _) (by omega) (by omega)
 rw [List.drop_zero, Int.zero_add] at h
 exact h
theorem rsup_in (m : List SE) (i : Nat) (hi : i < m.length) (dg : ByteArray) (g1 g2 : Int) (g3 : List S107) (g4 : List ByteArray) (g5 g6 : Int) (hi2 : i ≤ 60) (s : Int) {v : Int} (ps : List ByteArray) (hps : (m[i]).f1.f3 = ps) (hl : ps.length ≤ 1099511627776)
  (hn : Evk (fun k => Fe.l0 k m (if ps.contains dg = true then wrap64 (s + 1) else s) ((i + 1 : Nat) : Int) dg g1 g2 g3 g4 g5 g6) v) : ∀ (n j : Nat) (ov : Bool), j + n = ps.length → (ov || (ps.drop j).contains dg) = ps.contains dg → Evk (fun k => Fe.l1 k m s (i : Int) ov (j : Int) dg g1 g2 g3 g4 g5 g6) v
 | 0, j, ov, h, ho => by
  rw [List.drop_eq_nil_of_le (by omega), List.contains_nil, Bool.or_false] at ho
  rw [← ho] at hn
  refine Evk.step hn (fun k => ?_)
  rw [Fe.l1, if_pos (by omega), if_pos (by omega), rdE_eq m i hi, hps, if_neg (by omega), ws i (by omega)]
  cases ov with
  | true => rw [if_pos rfl, if_pos rfl]
  | false => rw [if_neg (by decide), if_neg (by decide)]
 | n + 1, j, ov, h, ho => by
  have hj : j < ps.length := by omega
  rw [List.drop_eq_getElem_cons hj, List.contains_cons, ba_beq] at ho
  have c1 : ((i : Int) < (m.length : Int)) = True := eq_true (by omega)
  have c2 : (0 ≤ (i : Int)) = True := eq_true (by omega)
  have c3 : ((j : Int) < (ps.length : Int)) = True := eq_true (by omega)
  have c4 : (0 ≤ (j : Int)) = True := eq_true (by omega)
  cases ov with
  | true =>
   refine Evk.step (rsup_in m i hi dg g1 g2 g3 g4 g5 g6 hi2 s ps hps hl hn n (j + 1) true (by omega) (by rw [Bool.true_or] at ho ⊢; exact ho)) (fun k => ?_)
   simp only [Fe.l1, c1, c2, if_true, rdE_eq m i hi, hps, c3, ws j (show j ≤ 4611686018427387000 by omega)]
  | false =>
   have e : ((ps[j]).toList == dg.toList) = decide (dg.toList = (ps[j]).toList) := by
    rw [Bool.eq_iff_iff, beq_iff_eq, decide_eq_true_iff]
    exact eq_comm
   refine Evk.step (rsup_in m i hi dg g1 g2 g3 g4 g5 g6 hi2 s ps hps hl hn n (j + 1) (decide (dg.toList = (ps[j]).toList)) (by omega) (by rw [Bool.false_or] at ho; exact ho)) (fun k => ?_)
   have c0 : (false = true) = False := by simp
   simp only [Fe.l1, c1, c2, if_true, rdE_eq m i hi, hps, c3, c4, c0, if_false, rdOf_eq ps j hj, e, ws j (show j ≤ 4611686018427387000 by omega)]
theorem rsup_l (m : List SE) (hm : m.length ≤ 60) (hp : ∀ x ∈ m, x.f1.f3.length ≤ 1099511627776) (dg : ByteArray) (g1 g2 : Int) (g3 : List S107) (g4 : List ByteArray) (g5 g6 : Int) : ∀ (n i : Nat) (s : Int), i + n = m.length → 0 ≤ s → s ≤ i → Evk (fun k => Fe.l0 k m s (i : Int) dg g1 g2 g3 g4 g5 g6) (s + (cntP (m.drop i) dg : Int))
 | 0, i, s, h, h0, h1 => by
  rw [List.drop_eq_nil_of_le (by omega)]
  refine Evk.step (Evk.ret _) (fun k => ?_)
  rw [Fe.l0, if_neg (by omega)]
  simp [cntP]
 | n + 1, i, s, h, h0, h1 => by
  have hi : i < m.length := by omega
  rw [List.drop_eq_getElem_cons hi, cntP_cons]
  refine Evk.step (rsup_in m i hi dg g1 g2 g3 g4 g5 g6 (by omega) s _ rfl (hp _ (List.getElem_mem hi)) (v := _) ?_ (m[i]).f1.f3.length 0 false (Nat.zero_add _) (by rw [List.drop_zero, Bool.false_or])) (fun k => by rw [Fe.l0, if_pos (by omega)]; rfl)
  by_cases hb : (m[i]).f1.f3.contains dg = true
  ·
   have ih := rsup_l m hm hp dg g1 g2 g3 g4 g5 g6 n (i + 1) (s + 1) (by omega) (by omega) (by omega)
   rw [if_pos hb, if_pos hb, w64 (s + 1) (by omega) (by omega), ← Int.add_assoc]
   exact ih
  ·
   have ih := rsup_l m hm hp dg g1 g2 g3 g4 g5 g6 n (i + 1) s (by omega) (by omega) (by omega)
   rw [if_neg hb, if_neg hb, Int.zero_add]
   exact ih
theorem r_support {l : List SE} (hf : Fine13 l) (a b : Int) (dg : ByteArray) (au ro : Int) (g3 : List S107) (g4 : List ByteArray) (g5 g6 : Int) : Evk (fun k => Fe.f k a b l dg au ro g3 g4 g5 g6) (suppC l dg ro : Int) := by
 have hl := hf.few
 have hr := roundC_len l (wrap64 (ro + 1))
 refine Evk.of_eq (Evk.bind (r_round l a b (wrap64 (ro + 1)) (by omega)) ?_) (fun k => by unfold Fe.f; rfl)
 have h := rsup_l (roundC l (wrap64 (ro + 1))) (by omega) (fun x hx => hf.ps x (List.mem_filter.1 hx).1) dg au ro g3 g4 g5 g6 _ 0 0 (Nat.zero_add _) (by omega) (by omega)
 rw [List.drop_zero, Int.zero_add] at h
 exact h
abbrev RE := ByteArray × Int × Int × List S107 × List ByteArray × Int × Int × Int
abbrev err (r : RE) : Int := r.2.2.2.2.2.2.2
def entR (r : RE) : SE := ⟨r.1, ⟨r.2.1, r.2.2.1, r.2.2.2.1, r.2.2.2.2.1, ⟨r.2.2.2.2.2.1, r.2.2.2.2.2.2.1⟩⟩⟩
def zeroR (e : Int) : RE := ((⟨#[]⟩ : ByteArray), 0, 0, [], [], 0, 0, e)
def resR (x : SE) : RE := (x.f0, x.f1.f0, x.f1.f1, x.f1.f2, x.f1.f3, x.f1.f4.f0, x.f1.f4.f1, 0)
def byC (l : List SE) (who r : Int) : Option SE := l.find? (fun x => x.f1.f0 == who && x.f1.f1 == r)
def firstV (l : List SE) (w : Int) (v : Int × Int) : RE := if v.2 = 0 then (match byC l v.1 (wrap64 (wrap64 (3 * w) - 2)) with
 | some x => resR x
 | none => zeroR 7) else zeroR v.2
def firstC (a : Int) (l : List SE) (w : Int) : RE := firstV l w (revC a l w)
def byT (l : List SE) (who r : Int) : ByteArray × Int × Int × List S107 × List ByteArray × Int × Int × Bool := match byC l who r with
 | some x => (x.f0, x.f1.f0, x.f1.f1, x.f1.f2, x.f1.f3, x.f1.f4.f0, x.f1.f4.f1, true)
 | none => ((⟨#[]⟩ : ByteArray), 0, 0, [], [], 0, 0, false)
theorem c_by (a b : Int) (l : List SE) (who r : Int) : Gh.f a b l who r = some (byT l who r) := by
 unfold Gh.f byT byC
 cases l.find? (fun x => x.f1.f0 == who && x.f1.f1 == r) <;> rfl
theorem r_by_l {l : List SE} (hl : l.length ≤ 60) (a b who r : Int) : ∀ (n i : Nat), i + n = l.length → Evk (fun k => Fb.l0 k who r (i : Int) a b l) (byT (l.drop i) who r)
 | 0, i, h => by
  rw [List.drop_eq_nil_of_le (by omega)]
  exact Evk.step (Evk.ret _) (fun k => by rw [Fb.l0, if_neg (by omega)]; rfl)
 | n + 1, i, h => by
  have hi : i < l.length := by omega
  have ih := r_by_l hl a b who r n (i + 1) (by omega)
  rw [List.drop_eq_getElem_cons hi]
  unfold byT byC
  rw [List.find?_cons]
  by_cases h1 : (l[i]).f1.f0 = who
  ·
   by_cases h2 : (l[i]).f1.f1 = r
   ·
    have e : ((l[i]).f1.f0 == who && (l[i]).f1.f1 == r) = true := by rw [h1, h2, beq_self_eq_true, beq_self_eq_true]; rfl
    rw [e]
    exact Evk.step (Evk.ret _) (fun k => by rw [Fb.l0, if_pos (by omega), if_pos (by omega), rdE_eq l i hi, if_pos h1, if_pos h2])
   ·
    have e : ((l[i]).f1.f0 == who && (l[i]).f1.f1 == r) = false := by rw [beq_eq_false_iff_ne.2 h2, Bool.and_false]
    rw [e]
    exact Evk.step ih (fun k => by rw [Fb.l0, if_pos (by omega), if_pos (by omega), rdE_eq l i hi, if_pos h1, if_neg h2, ws i (by omega)])
  ·
   have e : ((l[i]).f1.f0 == who && (l[i]).f1.f1 == r) = false := by rw [beq_eq_false_iff_ne.2 h1, Bool.false_and]
   rw [e]
   exact Evk.step ih (fun k => by rw [Fb.l0, if_pos (by omega), if_pos (by omega), rdE_eq l i hi, if_neg h1, ws i (by omega)])
theorem r_by {l : List SE} (hl : l.length ≤ 60) (a b who r : Int) : Evk (fun k => Fb.f k a b l who r) (byT l who r) := by
 have h := r_by_l hl a b who r l.length 0 (by omega)
 rw [List.drop_zero] at h
 exact Evk.of_eq h (fun k => by unfold Fb.f; rfl)
theorem first_c {l : List SE} (hf : Fine13 l) (a b w : Int) : Evk (fun k => Gb.f k a b l w) (firstC a l w) := by
 have hl := hf.few
 have hrev := c_rev l a b w (by omega)
 unfold firstC firstV
 by_cases he : (revC a l w).2 = 0
 ·
  unfold Gb.f
  refine Evk.bind hrev (Evk.of_eq ?_ (fun k => if_pos he))
  refine Evk.const (fun k => ?_)
  rw [c_by, Option.bind_some, if_pos he]
  unfold byT
  cases byC l (revC a l w).1 (wrap64 (wrap64 (3 * w) - 2)) <;> rfl
 ·
  unfold Gb.f
  refine Evk.bind hrev (Evk.of_eq ?_ (fun k => if_neg he))
  rw [if_neg he]
  exact Evk.ret _
theorem rfirst_c {l : List SE} (hf : Fine13 l) (a b w : Int) : Evk (fun k => Gc.f k a b l w) (firstC a l w) := by
 have hl := hf.few
 have hrev := r_rev l a b w (by omega)
 unfold firstC firstV
 by_cases he : (revC a l w).2 = 0
 ·
  unfold Gc.f
  refine Evk.bind hrev (Evk.of_eq ?_ (fun k => if_pos he))
  refine Evk.bind (r_by hl a b _ _) ?_
  rw [if_pos he]
  unfold byT
  cases byC l (revC a l w).1 (wrap64 (wrap64 (3 * w) - 2)) <;> exact Evk.ret _
 ·
  unfold Gc.f
  refine Evk.bind hrev (Evk.of_eq ?_ (fun k => if_neg he))
  rw [if_neg he]
  exact Evk.ret _
def okR (r : RE) : RE := (r.1, r.2.1, r.2.2.1, r.2.2.2.1, r.2.2.2.2.1, r.2.2.2.2.2.1, r.2.2.2.2.2.2.1, 0)
def decV (a : Int) (l : List SE) (r : RE) : RE := if err r = 0 then (if (suppC l r.1 r.2.2.1 : Int) < (weakC a : Int) then zeroR 12 else okR r) else zeroR (err r)
def decC (a : Int) (l : List SE) (w : Int) : RE := decV a l (firstC a l w)
theorem dec_c {l : List SE} (hf : Fine13 l) (a b w : Int) : Evk (fun k => Fy.f k a b l w) (decC a l w) := by
 have h1 := first_c hf a b w
 unfold decC
 generalize firstC a l w = r at h1
 unfold decV Fy.f
 refine Evk.bind h1 ?_
 by_cases he : err r = 0
 ·
  refine Evk.of_eq ?_ (fun k => if_pos he)
  refine Evk.bind (support_ev hf a b _ _ _ _ _ _ _) ?_
  rw [if_pos he]
  refine Evk.const (fun k => ?_)
  rw [c_weak, Option.bind_some]
  by_cases hs : (suppC l r.1 r.2.2.1 : Int) < (weakC a : Int)
  ·
   rw [if_pos hs, if_pos hs]; rfl
  ·
   rw [if_neg hs, if_neg hs]; rfl
 ·
  rw [if_neg he]
  exact Evk.of_eq (Evk.ret _) (fun k => if_neg he)
theorem rdec_c {l : List SE} (hf : Fine13 l) (a b w : Int) : Evk (fun k => H0.f k a b l w) (decC a l w) := by
 have h1 := rfirst_c hf a b w
 unfold decC
 generalize firstC a l w = r at h1
 unfold decV H0.f
 refine Evk.bind h1 ?_
 by_cases he : err r = 0
 ·
  refine Evk.of_eq ?_ (fun k => if_pos he)
  refine Evk.bind (r_support hf a b _ _ _ _ _ _ _) ?_
  rw [if_pos he]
  refine Evk.const (fun k => ?_)
  rw [c_rweak, Option.bind_some]
  by_cases hs : (suppC l r.1 r.2.2.1 : Int) < (weakC a : Int)
  ·
   rw [if_pos hs, if_pos hs]; rfl
  ·
   rw [if_neg hs, if_neg hs]; rfl
 ·
  rw [if_neg he]
  exact Evk.of_eq (Evk.ret _) (fun k => if_neg he)
theorem strs_sum : ∀ l : List ByteArray, l.length ≤ (l.map (fun s : ByteArray => s.size + 1)).sum
 | [] => Nat.le_refl _
 | a :: r => by
  have := strs_sum r
  simp only [List.map_cons, List.sum_cons, List.length_cons]; omega
theorem ents_len : ∀ l : List SE, l.length ≤ (l.map B32).sum
 | [] => Nat.le_refl _
 | a :: r => by
  have h1 := ents_len r
  have e : B32 a = a.f0.size + 1 + B30 a.f1 + 1 := rfl
  simp only [List.map_cons, List.sum_cons, List.length_cons]
  omega
theorem rd129_eq (l : List S107) (i : Nat) (h : i < l.length) : rd_T107 l (i : Int) = l[i] := by
 unfold rd_T107
 rw [Int.toNat_natCast, List.getD_eq_getElem?_getD, List.getElem?_eq_getElem h]; rfl
theorem same1_l (l : List ByteArray) (hl : l.length ≤ 8796093022208) : ∀ (n i : Nat), i + n = l.length → Evk (fun k => Fp.l0 k l l (i : Int)) true
 | 0, i, h => Evk.step (Evk.ret true) (fun k => by rw [Fp.l0, if_neg (by omega)])
 | n + 1, i, h => Evk.step (same1_l l hl n (i + 1) (by omega)) (fun k => by rw [Fp.l0, if_pos (by omega), if_pos (by omega), if_pos (by omega), if_pos rfl, ws i (by omega)])
theorem same1_ev (l : List ByteArray) (hl : l.length ≤ 8796093022208) : Evk (fun k => Fp.f k l l) true := Evk.of_eq (same1_l l hl l.length 0 (by omega)) (fun k => by rw [Fp.f, if_pos rfl]; rfl)
theorem same7_ev (a b : Int) (l : List ByteArray) (hl : l.length ≤ 8796093022208) : Evk (fun k => Gp.f k a b l a b l) true := by
 unfold Gp.f
 refine Evk.bind (same1_ev l hl) ?_
 exact Evk.of_eq (Evk.ret true) (fun k => by rw [if_pos rfl, if_pos rfl, beq_self_eq_true])
theorem sameAll_l (l : List S107) (hl : l.length ≤ 8796093022208) (h2 : ∀ x ∈ l, x.f2.length ≤ 8796093022208) : ∀ (n i : Nat), i + n = l.length → Evk (fun k => Fj.l0 k l l (i : Int)) true
 | 0, i, h => Evk.step (Evk.ret true) (fun k => by rw [Fj.l0, if_neg (by omega)])
 | n + 1, i, h => by
  have hi : i < l.length := by omega
  have e := rd129_eq l i hi
  have h1 : ((i : Int) < (l.length : Int)) = True := eq_true (by omega)
  have h3 : (0 ≤ (i : Int)) = True := eq_true (by omega)
  refine evk_succ ?_
  simp only [Fj.l0, h1, h3, if_true, e, ws i (show i ≤ 4611686018427387000 by omega)]
  refine Evk.bind (same7_ev _ _ _ (h2 _ (List.getElem_mem hi))) ?_
  exact Evk.of_eq (sameAll_l l hl h2 n (i + 1) (by omega)) (fun k => if_pos rfl)
theorem sameAll_ev (l : List S107) (hl : l.length ≤ 8796093022208) (h2 : ∀ x ∈ l, x.f2.length ≤ 8796093022208) : Evk (fun k => Fj.f k l l) true := Evk.of_eq (sameAll_l l hl h2 l.length 0 (by omega)) (fun k => by rw [Fj.f, if_pos rfl]; rfl)
theorem same8_ev (a b : Int) (l : List S107) (ps : List ByteArray) (c d : Int) (hl : l.length ≤ 8796093022208) (h2 : ∀ x ∈ l, x.f2.length ≤ 8796093022208) (hp : ps.length ≤ 8796093022208) : Evk (fun k => Gj.f k a b l ps c d a b l ps c d) true := by
 unfold Gj.f
 refine Evk.bind (same1_ev ps hp) ?_
 refine Evk.bind (sameAll_ev l hl h2) ?_
 exact Evk.of_eq (Evk.ret true) (fun k => by rw [if_pos rfl, if_pos rfl, if_pos rfl, if_pos rfl, beq_self_eq_true, beq_self_eq_true]; rfl)
def Fine (x : SE) : Prop := x.f1.f2.length ≤ 8796093022208 ∧ (∀ y ∈ x.f1.f2, y.f2.length ≤ 8796093022208) ∧ x.f1.f3.length ≤ 8796093022208
theorem entries_l (l : List SE) (hl : l.length ≤ 8796093022208) (h2 : ∀ x ∈ l, Fine x) : ∀ (n i : Nat), i + n = l.length → Evk (fun k => F6.l0 k l l (i : Int)) true
 | 0, i, h => Evk.step (Evk.ret true) (fun k => by rw [F6.l0, if_neg (by omega)])
 | n + 1, i, h => by
  have hi : i < l.length := by omega
  have e := rdE_eq l i hi
  have h1 : ((i : Int) < (l.length : Int)) = True := eq_true (by omega)
  have h3 : (0 ≤ (i : Int)) = True := eq_true (by omega)
  obtain ⟨f1, f2, f3⟩ := h2 _ (List.getElem_mem hi)
  refine evk_succ ?_
  simp only [F6.l0, h1, h3, if_true, e, ws i (show i ≤ 4611686018427387000 by omega)]
  refine Evk.bind (same8_ev _ _ _ _ _ _ f1 f2 f3) ?_
  exact Evk.of_eq (entries_l l hl h2 n (i + 1) (by omega)) (fun k => if_pos rfl)
theorem entries_ev (l : List SE) (hl : l.length ≤ 8796093022208) (h2 : ∀ x ∈ l, Fine x) : Evk (fun k => F6.f k l l) true := Evk.of_eq (entries_l l hl h2 l.length 0 (by omega)) (fun k => by rw [F6.f, if_pos rfl]; rfl)
theorem ents_ps : ∀ (l : List SE), ∀ x ∈ l, x.f1.f3.length ≤ (l.map B32).sum
 | a :: r, x, hx => by
  have h3 := strs_sum a.f1.f3
  have e : B32 a = a.f0.size + 1 + B30 a.f1 + 1 := rfl
  have e' : B30 a.f1 = 1 + 1 + ((a.f1.f2.map B107).sum + 1) + ((a.f1.f3.map (fun s : ByteArray => s.size + 1)).sum + 1) + B28 a.f1.f4 + 1 := rfl
  simp only [List.map_cons, List.sum_cons]
  rcases List.mem_cons.1 hx with rfl | hx
  ·
   omega
  ·
   have := ents_ps r x hx; omega
theorem fine_of (x : SE) (h : G32 x) : Fine x := ⟨by have := h.2.2.2.1.1; omega, fun y hy => by have := (h.2.2.2.1.2 y hy).2.2.1; omega, by have := h.2.2.2.2.1.1; omega⟩
theorem small13_l (l : List SE) (hl : l.length ≤ 1048576) (a b : Int) : ∀ (n i : Nat), i + n = l.length → ∃ r : Bool, Evk (fun k => Fu.l0 k (i : Int) a b l) r ∧ (r = true → l.length ≤ 60 ∧ ∀ (p : Nat) (hp : p < l.length), i ≤ p → (l[p]).f1.f1 ≤ 60)
 | 0, i, h => ⟨decide ((l.length : Int) ≤ 60), Evk.step (Evk.ret _) (fun k => by rw [Fu.l0, if_neg (by omega)]), fun hc => ⟨by have := of_decide_eq_true hc; omega, fun p hp hi => by omega⟩⟩
 | n + 1, i, h => by
  have hi : i < l.length := by omega
  by_cases h1 : (l[i]).f1.f1 > 60
  ·
   exact ⟨false, Evk.step (Evk.ret false) (fun k => by rw [Fu.l0, if_pos (by omega), if_pos (by omega), rdE_eq l i hi, if_pos h1]), fun hc => by cases hc⟩
  ·
   obtain ⟨r, h2, h3⟩ := small13_l l hl a b n (i + 1) (by omega)
   refine ⟨r, Evk.step h2 (fun k => by rw [Fu.l0, if_pos (by omega), if_pos (by omega), rdE_eq l i hi, if_neg h1, ws i (by omega)]), fun hr => ⟨(h3 hr).1, fun p hp hip => ?_⟩⟩
   by_cases hpi : p = i
   ·
    subst hpi; omega
   ·
    exact (h3 hr).2 p hp (by omega)
def d11 : ByteArray := ⟨#[56, 90, 237, 60, 111, 227, 97, 97, 205, 91, 149, 80, 127, 128, 16, 20, 209, 149, 82, 49, 162, 178, 57, 24, 61, 213, 242, 150, 252, 22, 8, 155]⟩
def d12 : ByteArray := ⟨#[57, 64, 140, 167, 97, 126, 123, 156, 175, 246, 88, 229, 108, 4, 52, 237, 73, 194, 221, 31, 51, 237, 68, 242, 230, 67, 28, 76, 21, 114, 166, 41]⟩
def d13 : ByteArray := ⟨#[135, 36, 183, 247, 227, 10, 7, 104, 66, 91, 226, 197, 155, 33, 221, 240, 17, 92, 80, 189, 226, 190, 32, 200, 90, 12, 60, 9, 7, 170, 232, 29]⟩
def d14 : ByteArray := ⟨#[232, 247, 118, 6, 1, 165, 16, 17, 127, 154, 237, 205, 247, 181, 40, 72, 145, 190, 68, 7, 12, 167, 20, 246, 54, 14, 183, 70, 63, 182, 216, 104]⟩
def d21 : ByteArray := ⟨#[217, 50, 127, 85, 170, 58, 164, 84, 121, 0, 143, 28, 160, 97, 129, 71, 245, 59, 96, 93, 87, 239, 44, 23, 137, 72, 168, 1, 89, 237, 140, 10]⟩
def d22 : ByteArray := ⟨#[203, 10, 13, 147, 170, 72, 38, 44, 204, 169, 210, 68, 129, 77, 146, 56, 253, 232, 79, 181, 120, 29, 203, 76, 100, 39, 170, 74, 130, 146, 148, 149]⟩
def d23 : ByteArray := ⟨#[38, 86, 193, 109, 102, 193, 28, 5, 212, 90, 73, 165, 87, 32, 25, 230, 59, 211, 82, 69, 174, 49, 3, 1, 254, 112, 165, 106, 154, 163, 226, 136]⟩
def d24 : ByteArray := ⟨#[128, 217, 223, 69, 57, 28, 23, 248, 78, 18, 175, 28, 158, 95, 42, 214, 1, 20, 49, 211, 153, 62, 28, 247, 138, 171, 28, 49, 167, 76, 48, 64]⟩
def d31 : ByteArray := ⟨#[79, 245, 228, 25, 3, 75, 9, 156, 241, 130, 20, 206, 27, 30, 80, 167, 129, 136, 162, 108, 133, 194, 164, 117, 48, 129, 106, 33, 132, 41, 132, 84]⟩
def d32 : ByteArray := ⟨#[213, 7, 208, 188, 153, 39, 253, 103, 29, 55, 209, 240, 234, 165, 5, 240, 93, 131, 192, 21, 46, 115, 146, 200, 127, 24, 44, 102, 191, 37, 18, 30]⟩
def d33 : ByteArray := ⟨#[94, 228, 235, 202, 45, 21, 245, 10, 199, 199, 189, 130, 184, 5, 201, 189, 89, 79, 2, 3, 99, 107, 240, 83, 12, 231, 53, 5, 204, 109, 165, 22]⟩
def d34 : ByteArray := ⟨#[179, 8, 23, 197, 160, 214, 121, 122, 62, 103, 105, 210, 72, 228, 231, 43, 212, 135, 41, 234, 101, 176, 60, 73, 35, 151, 93, 231, 217, 226, 179, 185]⟩
def up1 : List ByteArray := []
def up2 : List ByteArray := [d11, d12, d13, d14]
def up3 : List ByteArray := [d23, d24, d22, d21]
def e11 : SE := ⟨d11, ⟨1, 1, [], up1, ⟨0, 0⟩⟩⟩
def e12 : SE := ⟨d12, ⟨2, 1, [], up1, ⟨0, 0⟩⟩⟩
def e13 : SE := ⟨d13, ⟨3, 1, [], up1, ⟨0, 0⟩⟩⟩
def e14 : SE := ⟨d14, ⟨4, 1, [], up1, ⟨0, 0⟩⟩⟩
def e21 : SE := ⟨d21, ⟨1, 2, [], up2, ⟨0, 0⟩⟩⟩
def e22 : SE := ⟨d22, ⟨2, 2, [], up2, ⟨0, 0⟩⟩⟩
def e23 : SE := ⟨d23, ⟨3, 2, [], up2, ⟨0, 0⟩⟩⟩
def e24 : SE := ⟨d24, ⟨4, 2, [], up2, ⟨0, 0⟩⟩⟩
def e31 : SE := ⟨d31, ⟨1, 3, [], up3, ⟨6572, 4632⟩⟩⟩
def e32 : SE := ⟨d32, ⟨2, 3, [], up3, ⟨2591, 9743⟩⟩⟩
def e33 : SE := ⟨d33, ⟨3, 3, [], up3, ⟨8617, 4847⟩⟩⟩
def e34 : SE := ⟨d34, ⟨4, 3, [], up3, ⟨4636, 9958⟩⟩⟩
def eqBs : List ByteArray → List ByteArray → Bool
 | [], [] => true
 | a :: r, b :: s => (a.toList == b.toList) && eqBs r s
 | _, _ => false
theorem eqBs_eq : ∀ a b : List ByteArray, eqBs a b = true → a = b
 | [], [], _ => rfl
 | a :: r, b :: s, h => by
  rw [eqBs, Bool.and_eq_true, beq_iff_eq] at h
  rw [ba_ext h.1, eqBs_eq r s h.2]
 | [], b :: s, h => by cases h
 | a :: r, [], h => by cases h
def eqSE (x y : SE) : Bool := (x.f0.toList == y.f0.toList) && (x.f1.f0 == y.f1.f0) && (x.f1.f1 == y.f1.f1) && x.f1.f2.isEmpty && y.f1.f2.isEmpty && eqBs x.f1.f3 y.f1.f3 && (x.f1.f4.f0 == y.f1.f4.f0) && (x.f1.f4.f1 == y.f1.f4.f1)
theorem eqSE_eq (x y : SE) (h : eqSE x y = true) : x = y := by
 unfold eqSE at h
 simp only [Bool.and_eq_true, beq_iff_eq, List.isEmpty_iff] at h
 obtain ⟨⟨⟨⟨⟨⟨⟨h0, h1⟩, h2⟩, h3⟩, h4⟩, h5⟩, h6⟩, h7⟩ := h
 obtain ⟨x0, x1, x2, x3, x4, x5, x6⟩ := x
 obtain ⟨y0, y1, y2, y3, y4, y5, y6⟩ := y
 dsimp only at h0 h1 h2 h3 h4 h5 h6 h7
 rw [ba_ext h0, h1, h2, h3, h4, eqBs_eq _ _ h5, h6, h7]
def eqL : List SE → List SE → Bool
 | [], [] => true
 | a :: r, b :: s => eqSE a b && eqL r s
 | _, _ => false
theorem eqL_eq : ∀ a b : List SE, eqL a b = true → a = b
 | [], [], _ => rfl
 | a :: r, b :: s, h => by
  rw [eqL, Bool.and_eq_true] at h
  rw [eqSE_eq a b h.1, eqL_eq r s h.2]
 | [], b :: s, h => by cases h
 | a :: r, [], h => by cases h
def addB (L : List SE) (id r : Int) (up : List ByteArray) (s t : Int) (e : SE) : Bool := match Fn.f 60 4 0 L id r [] up s t with
 | some (n, lo, M, _) => n == 4 && lo == 0 && eqL M (L ++ [e])
 | none => false
theorem add_ev (L : List SE) (id r : Int) (up : List ByteArray) (s t : Int) (e : SE) (h : addB L id r up s t e = true) : ∃ q, Evk (fun k => Fn.f k 4 0 L id r [] up s t) (4, 0, L ++ [e], q) := by
 unfold addB at h
 cases hq : Fn.f 60 4 0 L id r [] up s t with
 | none => rw [hq] at h; cases h
 | some v =>
  obtain ⟨n, lo, M, q⟩ := v
  rw [hq] at h
  dsimp only at h
  simp only [Bool.and_eq_true, beq_iff_eq] at h
  obtain ⟨⟨rfl, rfl⟩, h3⟩ := h
  rw [eqL_eq _ _ h3] at hq
  exact ⟨q, Evk.of_mono (fun k z hz => Fn.mono 4 0 L id r [] up s t k z hz) hq⟩
def ownB (id s t : Int) : Bool := match Gd.f 60 (⟨#[]⟩ : ByteArray) 1 4 id with
 | some (a, b) => a == s && b == t
 | none => false
theorem own_ev (id s t : Int) (h : ownB id s t = true) : Evk (fun k => Gd.f k (⟨#[]⟩ : ByteArray) 1 4 id) (s, t) := by
 unfold ownB at h
 cases hq : Gd.f 60 (⟨#[]⟩ : ByteArray) 1 4 id with
 | none => rw [hq] at h; cases h
 | some v =>
  obtain ⟨a, b⟩ := v
  rw [hq] at h
  dsimp only at h
  simp only [Bool.and_eq_true, beq_iff_eq] at h
  obtain ⟨rfl, rfl⟩ := h
  exact Evk.of_mono (fun k z hz => Gd.mono (⟨#[]⟩ : ByteArray) 1 4 id k z hz) hq
theorem l2_a (r : Int) (up : List ByteArray) (id : Int) (L : List SE) (e : SE) {v : Int × Int × List SE} (hm : ¬ Int.tmod r 3 = 0) (h1 : 1 ≤ id) (h4 : id ≤ 4) (ha : addB L id r up 0 0 e = true) (hn : Evk (fun k => F3.l2 k 3 r up (id + 1) 4 0 (L ++ [e])) v) : Evk (fun k => F3.l2 k 3 r up id 4 0 L) v := by
 obtain ⟨q, hq⟩ := add_ev L id r up 0 0 e ha
 refine evk_succ ?_
 have c1 : (id ≤ 4) = True := eq_true h4
 have c2 : (Int.tmod r 3 = 0) = False := eq_false hm
 simp only [F3.l2, c1, c2, if_true, if_false]
 refine Evk.bind hq ?_
 rw [w64 (id + 1) (by omega) (by omega)]
 exact hn
theorem l2_b (up : List ByteArray) (id : Int) (L : List SE) (e : SE) {s t : Int} {v : Int × Int × List SE} (h1 : 1 ≤ id) (h4 : id ≤ 4) (ho : ownB id s t = true) (ha : addB L id 3 up s t e = true) (hn : Evk (fun k => F3.l2 k 3 3 up (id + 1) 4 0 (L ++ [e])) v) : Evk (fun k => F3.l2 k 3 3 up id 4 0 L) v := by
 obtain ⟨q, hq⟩ := add_ev L id 3 up s t e ha
 have hw := own_ev id s t ho
 refine evk_succ ?_
 have c1 : (id ≤ 4) = True := eq_true h4
 have c2 : (Int.tmod 3 3 = 0) = True := eq_true (by decide)
 have c3 : wrap64 (Int.tdiv 3 3) = 1 := by decide +kernel
 simp only [F3.l2, c1, c2, if_true, c3]
 refine Evk.bind hw (Evk.bind hq ?_)
 rw [w64 (id + 1) (by omega) (by omega)]
 exact hn
theorem l2_e (r : Int) (up : List ByteArray) (L : List SE) {v : Int × Int × List SE} (h1 : 1 ≤ r) (h4 : r ≤ 3) (hn : Evk (fun k => F3.l0 k 3 (r + 1) 4 0 L) v) : Evk (fun k => F3.l2 k 3 r up 5 4 0 L) v :=
 Evk.step hn (fun k => by rw [F3.l2, if_neg (by omega), w64 (r + 1) (by omega) (by omega)])
def puts : List SE → List ByteArray → Option (List ByteArray)
 | [], up => some up
 | x :: m, up => (Fq.f 60 up x.f0).bind (puts m)
theorem l1_f (r : Int) (m : List SE) (hm : m.length ≤ 60) (L : List SE) (u : List ByteArray) {v : Int × Int × List SE} (hn : Evk (fun k => F3.l2 k 3 r u 1 4 0 L) v) : ∀ (n i : Nat) (up : List ByteArray), i + n = m.length → puts (m.drop i) up = some u → Evk (fun k => F3.l1 k 3 r m up (i : Int) 4 0 L) v
 | 0, i, up, h, hp => by
  rw [List.drop_eq_nil_of_le (by omega)] at hp
  obtain rfl := Option.some.inj hp
  exact Evk.step hn (fun k => by rw [F3.l1, if_neg (by omega)])
 | n + 1, i, up, h, hp => by
  have hi : i < m.length := by omega
  rw [List.drop_eq_getElem_cons hi] at hp
  obtain ⟨up', h1, h2⟩ := Option.bind_eq_some_iff.1 hp
  have ih := l1_f r m hm L u hn n (i + 1) up' (by omega) h2
  have hpu : Evk (fun k => Fq.f k up (m[i]).f0) up' := Evk.of_mono (fun k z hz => Fq.mono up (m[i]).f0 k z hz) h1
  refine evk_succ ?_
  have c1 : ((i : Int) < (m.length : Int)) = True := eq_true (by omega)
  have c2 : (0 ≤ (i : Int)) = True := eq_true (by omega)
  simp only [F3.l1, c1, c2, if_true, rdE_eq m i hi]
  refine Evk.bind hpu ?_
  rw [ws i (by omega)]
  exact ih
def roundB (L : List SE) (r : Int) (m : List SE) (u : List ByteArray) : Bool := (match F2.f 60 4 0 L (r - 1) with
 | some x => eqL x m
 | none => false) && decide (m.length ≤ 60) && (match puts m [] with
 | some x => eqBs x u
 | none => false)
theorem l0_r (r : Int) (L m : List SE) (u : List ByteArray) {v : Int × Int × List SE} (h1 : 1 ≤ r) (h4 : r ≤ 3) (hr : roundB L r m u = true) (hn : Evk (fun k => F3.l2 k 3 r u 1 4 0 L) v) : Evk (fun k => F3.l0 k 3 r 4 0 L) v := by
 unfold roundB at hr
 rw [Bool.and_eq_true, Bool.and_eq_true] at hr
 obtain ⟨⟨ha, hb⟩, hc⟩ := hr
 cases hq : F2.f 60 4 0 L (r - 1) with
 | none => rw [hq] at ha; cases ha
 | some x =>
  cases hp : puts m [] with
  | none => rw [hp] at hc; cases hc
  | some y =>
   rw [hq] at ha
   rw [hp] at hc
   rw [eqL_eq _ _ ha] at hq
   rw [eqBs_eq _ _ hc] at hp
   have hR : Evk (fun k => F2.f k 4 0 L (r - 1)) m := Evk.of_mono (fun k z hz => F2.mono 4 0 L (r - 1) k z hz) hq
   refine evk_succ ?_
   have c1 : (r ≤ 3) = True := eq_true h4
   simp only [F3.l0, c1, if_true, w64 (r - 1) (by omega) (by omega)]
   exact Evk.bind hR (l1_f r m (of_decide_eq_true hb) L u hn m.length 0 [] (Nat.zero_add _) hp)

theorem a11 : addB [] 1 1 up1 0 0 e11 = true := by decide +kernel
theorem a12 : addB [e11] 2 1 up1 0 0 e12 = true := by decide +kernel
theorem a13 : addB [e11, e12] 3 1 up1 0 0 e13 = true := by decide +kernel
theorem a14 : addB [e11, e12, e13] 4 1 up1 0 0 e14 = true := by decide +kernel
theorem a21 : addB [e11, e12, e13, e14] 1 2 up2 0 0 e21 = true := by decide +kernel
theorem a22 : addB [e11, e12, e13, e14, e21] 2 2 up2 0 0 e22 = true := by decide +kernel
theorem a23 : addB [e11, e12, e13, e14, e21, e22] 3 2 up2 0 0 e23 = true := by decide +kernel
theorem a24 : addB [e11, e12, e13, e14, e21, e22, e23] 4 2 up2 0 0 e24 = true := by decide +kernel
theorem a31 : addB [e11, e12, e13, e14, e21, e22, e23, e24] 1 3 up3 6572 4632 e31 = true := by decide +kernel
theorem o1 : ownB 1 6572 4632 = true := by decide +kernel
theorem a32 : addB [e11, e12, e13, e14, e21, e22, e23, e24, e31] 2 3 up3 2591 9743 e32 = true := by decide +kernel
theorem o2 : ownB 2 2591 9743 = true := by decide +kernel
theorem a33 : addB [e11, e12, e13, e14, e21, e22, e23, e24, e31, e32] 3 3 up3 8617 4847 e33 = true := by decide +kernel
theorem o3 : ownB 3 8617 4847 = true := by decide +kernel
theorem a34 : addB [e11, e12, e13, e14, e21, e22, e23, e24, e31, e32, e33] 4 3 up3 4636 9958 e34 = true := by decide +kernel
theorem o4 : ownB 4 4636 9958 = true := by decide +kernel
theorem r1 : roundB [] 1 [] up1 = true := by decide +kernel
theorem r2 : roundB [e11, e12, e13, e14] 2 [e11, e12, e13, e14] up2 = true := by decide +kernel
theorem r3 : roundB [e11, e12, e13, e14, e21, e22, e23, e24] 3 [e21, e22, e23, e24] up3 = true := by decide +kernel
def L12 : List SE := [e11, e12, e13, e14, e21, e22, e23, e24, e31, e32, e33, e34]
theorem f3 : Evk (fun k => F3.l0 k 3 4 4 0 L12) (4, 0, L12) := Evk.step (Evk.ret _) (fun k => by rw [F3.l0, if_neg (by omega)])
theorem f2 : Evk (fun k => F3.l0 k 3 3 4 0 [e11, e12, e13, e14, e21, e22, e23, e24]) (4, 0, L12) := l0_r 3 [e11, e12, e13, e14, e21, e22, e23, e24] [e21, e22, e23, e24] up3 (by omega) (by omega) r3 (l2_b up3 1 [e11, e12, e13, e14, e21, e22, e23, e24] e31 (by omega) (by omega) o1 a31 (l2_b up3 2 [e11, e12, e13, e14, e21, e22, e23, e24, e31] e32 (by omega) (by omega) o2 a32 (l2_b up3 3 [e11, e12, e13, e14, e21, e22, e23, e24, e31, e32] e33 (by omega) (by omega) o3 a33 (l2_b up3 4 [e11, e12, e13, e14, e21, e22, e23, e24, e31, e32, e33] e34 (by omega) (by omega) o4 a34 (l2_e 3 up3 _ (by omega) (by omega) f3)))))
theorem f1 : Evk (fun k => F3.l0 k 3 2 4 0 [e11, e12, e13, e14]) (4, 0, L12) := l0_r 2 [e11, e12, e13, e14] [e11, e12, e13, e14] up2 (by omega) (by omega) r2 (l2_a 2 up2 1 [e11, e12, e13, e14] e21 (by decide) (by omega) (by omega) a21 (l2_a 2 up2 2 [e11, e12, e13, e14, e21] e22 (by decide) (by omega) (by omega) a22 (l2_a 2 up2 3 [e11, e12, e13, e14, e21, e22] e23 (by decide) (by omega) (by omega) a23 (l2_a 2 up2 4 [e11, e12, e13, e14, e21, e22, e23] e24 (by decide) (by omega) (by omega) a24 (l2_e 2 up2 _ (by omega) (by omega) f2)))))
theorem f0 : Evk (fun k => F3.l0 k 3 1 4 0 []) (4, 0, L12) := l0_r 1 [] [] up1 (by omega) (by omega) r1 (l2_a 1 up1 1 [] e11 (by decide) (by omega) (by omega) a11 (l2_a 1 up1 2 [e11] e12 (by decide) (by omega) (by omega) a12 (l2_a 1 up1 3 [e11, e12] e13 (by decide) (by omega) (by omega) a13 (l2_a 1 up1 4 [e11, e12, e13] e14 (by decide) (by omega) (by omega) a14 (l2_e 1 up1 _ (by omega) (by omega) f1)))))
theorem four_lit : Evk (fun k => F3.f k 3) (4, 0, L12) := Evk.of_eq f0 (fun k => by unfold F3.f; rfl)
def whoB (L : List SE) (who : Int) : Bool := match byC L who 1 with
 | some x => decide (2 ≤ suppC L x.f0 x.f1.f1)
 | none => false
def sharesB : List S76 → Bool
 | [s, t] => s.f0 == 1 && s.f1.f0 == 6572 && s.f1.f1 == 4632 && t.f0 == 2 && t.f1.f0 == 2591 && t.f1.f1 == 9743
 | _ => false
def S2 : List S76 := [⟨1, ⟨6572, 4632⟩⟩, ⟨2, ⟨2591, 9743⟩⟩]
theorem shares_eq (l : List S76) (h : sharesB l = true) : l = S2 := by
 match l, h with
 | [⟨s0, s1, s2⟩, ⟨t0, t1, t2⟩], h =>
  simp only [sharesB, Bool.and_eq_true, beq_iff_eq] at h
  obtain ⟨⟨⟨⟨⟨rfl, rfl⟩, rfl⟩, rfl⟩, rfl⟩, rfl⟩ := h
  rfl
def chkB (L : List SE) : Bool := fineB L && whoB L 1 && whoB L 2 && whoB L 3 && whoB L 4 && (topS 0 L == 1) && decide (2 ≤ (roundC L 3).length) && sharesB (((roundC L 3).take 2).map shC)
set_option maxRecDepth 100000 in
theorem four_ok : chkB L12 = true := by decide +kernel
theorem ap2 : Fl.apB (eS S2) = true := by decide +kernel
theorem odd2 : Fl.oddS (eS S2) = false := by decide +kernel
theorem add_ok (x y : Gm.E) : Gm.Ok (Fl.opE Gm.add x y) := by
 unfold Fl.opE
 split
 ·
  exact Gm.red_ok _
 ·
  exact (by decide : Gm.Ok (0, 0))
theorem sum_ok (l : List (Int × Gm.E)) (wt : Nat → Gm.E) : ∀ (r i : Nat) (o : Gm.E), Gm.Ok o → Gm.Ok (Fl.sumFrom l wt r i o)
 | 0, _, _, h => h
 | r + 1, i, o, h => by
  rw [Fl.sumFrom]
  exact sum_ok l wt r (i + 1) _ (add_ok _ _)
theorem open_ok (l : List S76) (h : sharesB l = true) : ∃ who, openC l 4 = (who, 0) ∧ 1 ≤ who ∧ who ≤ 4 := by
 rw [shares_eq l h]
 have hy : Fl.openE (eS S2) (Fl.wtE (eS S2)) = (Fl.sumFrom (eS S2) (Fl.wtE (eS S2)) (eS S2).length 0 (0, 0), 0) := by
  unfold Fl.openE
  rw [if_neg (by decide), ap2, if_neg (by decide), odd2, if_neg (by decide)]
 have hs := sum_ok (eS S2) (Fl.wtE (eS S2)) (eS S2).length 0 (0, 0) (by decide)
 generalize Fl.sumFrom (eS S2) (Fl.wtE (eS S2)) (eS S2).length 0 (0, 0) = z at hy hs
 refine ⟨leadC z 4, ?_, ?_⟩
 ·
  unfold openC
  rw [hy, if_pos rfl]
 ·
  unfold leadC
  rw [if_pos ⟨by decide, hs⟩]
  have := Int.emod_nonneg (z.1 * 10007 + z.2) (show (4 : Int) ≠ 0 by omega)
  have := Int.emod_lt_of_pos (z.1 * 10007 + z.2) (show (0 : Int) < 4 by omega)
  omega
theorem dec_one {L : List SE} {who : Int} (hrev : revC 4 L 1 = (who, 0)) (hw : whoB L who = true) : err (decC 4 L 1) = 0 := by
 have e1 : wrap64 (wrap64 (3 * 1) - 2) = 1 := by decide +kernel
 have e4 : weakC 4 = 2 := by decide
 unfold decC firstC
 rw [hrev]
 unfold firstV
 dsimp only
 rw [if_pos rfl, e1]
 unfold whoB at hw
 cases hx : byC L who 1 with
 | none => rw [hx] at hw; cases hw
 | some x =>
  rw [hx] at hw
  have h2 := of_decide_eq_true hw
  unfold decV resR
  dsimp only [err]
  rw [if_pos rfl, if_neg (by rw [e4]; omega)]
  rfl
theorem chain_j1 {A C x1 x6 : Int} {L : List SE} {r : RE} (hd : Evk (fun k => Fy.f k A C L x6) r) (he : err r = 0) {v : List SE × Int} (hn : Evk (fun k => F5.l1 k x1 x6 [entR r] (wrap64 (x6 - 1)) A C L r.1 r.2.1 r.2.2.1 r.2.2.2.1 r.2.2.2.2.1 r.2.2.2.2.2.1 r.2.2.2.2.2.2.1) v) : Evk (fun k => F5.j1 k x1 x6 false A C L) v := by
 refine evk_succ ?_
 have c0 : (false = true) = False := by simp
 simp only [F5.j1, c0, if_false]
 exact Evk.bind hd (Evk.of_eq hn (fun k => if_pos he))
theorem shown_ev : Evk (fun k => Gq.f k) true := by
 have hc := four_ok
 have h4 := four_lit
 generalize L12 = L at hc h4
 unfold chkB at hc
 simp only [Bool.and_eq_true, beq_iff_eq, decide_eq_true_eq] at hc
 obtain ⟨⟨⟨⟨⟨⟨⟨hf, w1⟩, w2⟩, w3⟩, w4⟩, ht⟩, hr⟩, hs⟩ := hc
 have hF := fine13_of L hf
 have hT := c_top hF 4 0
 rw [ht] at hT
 obtain ⟨who, ho, g1, g2⟩ := open_ok _ hs
 have hrev : revC 4 L 1 = (who, 0) := by
  have e4 : weakC 4 = 2 := by decide
  unfold revC
  rw [if_neg (by rintro (h | h | h) <;> first | omega | exact absurd h (by decide)), e4, if_neg (by show ¬ (roundC L (3 * 1)).length < 2; have e : (3 * 1 : Int) = 3 := rfl; rw [e]; omega)]
  exact ho
 have hwho : whoB L who = true := by
  rcases (show who = 1 ∨ who = 2 ∨ who = 3 ∨ who = 4 by omega) with rfl | rfl | rfl | rfl <;> assumption
 have hd := dec_c hF 4 0 1
 have he := dec_one hrev hwho
 generalize decC 4 L 1 = r at hd he
 have hj : Evk (fun k => F5.l1 k 0 1 [entR r] 0 4 0 L r.1 r.2.1 r.2.2.1 r.2.2.2.1 r.2.2.2.2.1 r.2.2.2.2.2.1 r.2.2.2.2.2.2.1) ([entR r], 1) :=
  Evk.step (g := fun k => F5.j3 k 0 1 [entR r] 0 false 4 0 L r.1 r.2.1 r.2.2.1 r.2.2.2.1 r.2.2.2.2.1 r.2.2.2.2.2.1 r.2.2.2.2.2.2.1) (Evk.step (Evk.ret ([entR r], (1 : Int))) (fun k => by rw [F5.j3, if_neg (by decide)])) (fun k => by rw [F5.l1, if_neg (by decide)])
 have hj1 : Evk (fun k => F5.j1 k 0 1 false 4 0 L) ([entR r], 1) := chain_j1 hd he (by rw [w64 (1 - 1) (by omega) (by omega)]; exact hj)
 have hl : Evk (fun k => F5.f k 4 0 L 0) ([entR r], 1) := by
  refine Evk.of_eq (Evk.bind hT (Evk.step hj1 (fun k => ?_))) (fun k => by unfold F5.f; rfl)
  rw [F5.l0, if_neg (by omega), decide_eq_false (by omega)]
 refine Evk.of_eq (Evk.bind h4 (Evk.bind hl ?_)) (fun k => by unfold Gq.f; rfl)
 exact Evk.const (fun k => rfl)
theorem fine_zero (e : Int) : Fine (entR (zeroR e)) := ⟨Nat.zero_le _, fun _ h => (by cases h), Nat.zero_le _⟩
theorem fine_first {l : List SE} (h : ∀ x ∈ l, Fine x) (a w : Int) : Fine (entR (firstC a l w)) := by
 unfold firstC firstV
 split
 ·
  cases hx : byC l (revC a l w).1 (wrap64 (wrap64 (3 * w) - 2)) with
  | some x => exact h x (List.mem_of_find?_eq_some hx)
  | none => exact fine_zero 7
 ·
  exact fine_zero _
theorem fine_dec {l : List SE} (h : ∀ x ∈ l, Fine x) (a w : Int) : Fine (entR (decC a l w)) := by
 have h1 := fine_first h a w
 unfold decC
 generalize firstC a l w = r at h1
 unfold decV
 split
 ·
  split
  ·
   exact fine_zero _
  ·
   exact h1
 ·
  exact fine_zero _
theorem TuskAsks : Fz.Pure := by
 intro x0 a1 x2 hx ha hx2 hb
 have hbx : (x0.f2.map B32).sum ≤ 1048576 := by
  have e : B24 x0 = 1 + 1 + ((x0.f2.map B32).sum + 1) + 1 := rfl
  omega
 have hgl : x0.f2.length ≤ 1048576 := Nat.le_trans (ents_len x0.f2) hbx
 have hg : ∀ x ∈ x0.f2, Fine x := fun x h => fine_of x (hx.2.2.2 x h)
 refine Evk.get ?_
 obtain ⟨s, hs1, hs2⟩ := small13_l x0.f2 hgl x0.f0 x0.f1 x0.f2.length 0 (by omega)
 generalize hA : x0.f0 = A at hs1 ⊢
 generalize hC : x0.f1 = C at hs1 ⊢
 generalize hL : x0.f2 = L at hs1 hs2 hg hbx hgl ⊢
 have hout : Evk (fun k => Fz.j0 k a1 true true A C L x2.f0 x2.f1.f0 x2.f1.f1 x2.f1.f2 x2.f1.f3 x2.f1.f4.f0 x2.f1.f4.f1) true := Evk.step (Evk.ret true) (fun k => by rw [Fz.j0, if_pos rfl])
 have key : s = true → Evk (fun k => Fz.j0 k a1 true false A C L x2.f0 x2.f1.f0 x2.f1.f1 x2.f1.f2 x2.f1.f3 x2.f1.f4.f0 x2.f1.f4.f1) true := fun hs => by
  obtain ⟨f1, f2⟩ := hs2 hs
  have hf : Fine13 L := ⟨f1, fun x hx => by
   obtain ⟨p, hp, rfl⟩ := List.mem_iff_getElem.1 hx
   exact f2 p hp (by omega), fun x hx => by have := ents_ps L x hx; omega⟩
  have e1 := first_c hf A C a1
  have e2 := rfirst_c hf A C a1
  have e3 := dec_c hf A C a1
  have e4 := rdec_c hf A C a1
  have g1 := fine_first hg A a1
  have g2 := fine_dec hg A a1
  generalize firstC A L a1 = r at e1 e2 g1
  generalize decC A L a1 = q at e3 e4 g2
  have e5 := entries_ev [entR r, entR q] (by simp) (fun x hx => by
   rcases List.mem_cons.1 hx with rfl | hx
   ·
    exact g1
   ·
    rw [List.mem_singleton.1 hx]; exact g2)
  refine evk_succ ?_
  have c0 : (false = true) = False := by simp
  simp only [Fz.j0, c0, if_false]
  refine Evk.bind e1 (Evk.bind e2 (Evk.bind e3 (Evk.bind e4 (Evk.bind e5 ?_))))
  refine Evk.of_eq ?_ (fun k => by rw [if_pos rfl, if_pos rfl, if_pos rfl])
  refine Evk.bind (support_ev hf A C _ _ _ _ _ _ _) (Evk.bind (r_support hf A C _ _ _ _ _ _ _) ?_)
  refine Evk.of_eq ?_ (fun k => if_pos rfl)
  refine Evk.bind (c_top hf A C) (Evk.bind (r_top hf A C) ?_)
  rw [beq_self_eq_true]
  exact Evk.ret true
 unfold Fz.f
 refine Evk.bind shown_ev (Evk.bind (Evk.of_eq hs1 (fun k => by unfold Fu.f; rfl)) ?_)
 cases s with
 | false => exact Evk.of_eq hout (fun k => by rw [if_pos rfl]; rfl)
 | true => exact Evk.of_eq (key rfl) (fun k => by rw [if_pos rfl]; rfl)
end Go.Proofs.YtopijobdblfhoaaGreat.Pure
