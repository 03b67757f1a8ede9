import Derived.Test.YtopijobdblfhoaaGreatArgTuskChains
import Derived.Test.YtopijobdblfhoaaGreatVTuskChainsEk
import Derived.Test.YtopijobdblfhoaaGreatVTuskChainsSz
import Derived.IntWalk
set_option linter.unusedVariables false
set_option linter.unusedSimpArgs false
namespace Go.Proofs.YtopijobdblfhoaaGreat.Pure
open Go.RowKit Go.Proofs.YtopijobdblfhoaaGreat.PTuskChains Go.Proofs.YtopijobdblfhoaaGreatW.PrintWords Go.Proofs.YtopijobdblfhoaaGreatW.PrintLast
open Go.Proofs.YtopijobdblfhoaaGreat.Ek
open Go.IntWalk
theorem Qfg {a b : ByteArray} (h : a.toList = b.toList) : a = b := by
 have e : ∀ x : ByteArray, x.toList = x.data.toList := fun x => ByteArray.toList_eq x
 rw [e, e] at h
 rcases a with ⟨⟨a⟩⟩
 rcases b with ⟨⟨b⟩⟩
 simpa using h
theorem Qbp {α : Type} {f : Nat → Option α} {v : α} (h : Evk (fun k => f (k + 1)) v) : Evk f v := by
 obtain ⟨k0, h0⟩ := h; refine ⟨k0 + 1, fun k hk => ?_⟩; obtain ⟨k', rfl⟩ : ∃ k', k = k' + 1 := ⟨k - 1, by omega⟩; exact h0 k' (by omega)
theorem w64 (x : Int) (h : -4611686018427387904 ≤ x) (h' : x ≤ 4611686018427387904) : wrap64 x = x := Go.IntWalk.wrap64_in x (by omega)
theorem ws (i : Nat) (h : i ≤ 4611686018427387000) : wrap64 ((i : Int) + 1) = ((i + 1 : Nat) : Int) := by rw [w64 _ (by omega) (by omega)]; rfl
theorem Qi5 (l : List ByteArray) (i : Nat) (h : i < l.length) : Qby ByteArray.empty l (i : Int) = l[i] := by
 unfold Qby
 rw [Int.toNat_natCast, List.getD_eq_getElem?_getD, List.getElem?_eq_getElem h]; rfl
theorem Qqg (a b : ByteArray) : (a == b) = decide (a.toList = b.toList) := by
 by_cases h : a.toList = b.toList
 ·
  have e := Qfg h; subst e; rw [decide_eq_true h]; exact beq_self_eq_true a
 ·
  rw [decide_eq_false h]; exact beq_eq_false_iff_ne.2 (fun e => h (by rw [e]))
theorem Ql5 (l : List ByteArray) (hl : l.length ≤ 1099511627776) (s : ByteArray) : ∀ (n i : Nat), i + n = l.length → ∃ r : Int, Evk (fun k => G8.l0 k l s (l.length : Int) (i : Int)) r ∧ decide (r ≥ 0) = (l.drop i).contains s
 | 0, i, h => ⟨-1, Evk.step (Evk.ret (-1)) (fun k => by rw [G8.l0, if_neg (by omega)]), by rw [List.drop_eq_nil_of_le (by omega)]; rfl⟩
 | n + 1, i, h => by
  have hi : i < l.length := by omega
  have e := Qi5 l i hi; rw [List.drop_eq_getElem_cons hi, List.contains_cons, Qqg]
  by_cases hq : s.toList = (l[i]).toList
  ·
   refine ⟨(i : Int), Evk.step (Evk.ret (i : Int)) (fun k => by rw [G8.l0, if_pos (by omega), if_pos (by omega), if_pos (by omega), e, if_pos hq]), ?_⟩; rw [decide_eq_true hq, Bool.true_or]; exact decide_eq_true (by omega)
  ·
   obtain ⟨r, h1, h2⟩ := Ql5 l hl s n (i + 1) (by omega); refine ⟨r, Evk.step h1 (fun k => by rw [G8.l0, if_pos (by omega), if_pos (by omega), if_pos (by omega), e, if_neg hq, ws i (by omega)]), ?_⟩; rw [decide_eq_false hq, Bool.false_or]; exact h2
theorem Qjj (l : List ByteArray) (hl : l.length ≤ 1099511627776) (s : ByteArray) : Evk (fun k => Gv.f k l s) (l.contains s) := by
 obtain ⟨r, h1, h2⟩ := Ql5 l hl s l.length 0 (by omega); rw [List.drop_zero] at h2; refine Evk.bind (f := fun k => G8.f k l s) (g := fun _ t => some (decide (t ≥ 0))) h1 ?_; rw [h2]; exact Evk.ret _
def Qil (n : Int) : Bool := decide (4 ≤ n ∧ n ≤ 64 ∧ n % 3 = 1)
theorem Qot (n : Int) : G6.f n = some (Qil n) := by
 unfold G6.f Qil
 by_cases h1 : n ≥ 4
 ·
  by_cases h2 : n ≤ 64
  ·
   rw [if_pos h1, if_pos h2, Int.tmod_eq_emod_of_nonneg (by omega)]; congr 1; rw [Bool.eq_iff_iff, beq_iff_eq, decide_eq_true_iff]; omega
  ·
   rw [if_pos h1, if_neg h2, decide_eq_false (by omega)]
 ·
  rw [if_neg h1, decide_eq_false (by omega)]
theorem Qe5 {n : Int} (h : Qil n = true) : 4 ≤ n ∧ n ≤ 64 ∧ n % 3 = 1 := of_decide_eq_true h
def Qcm (n : Int) : Nat := if Qil n = true then ((n - 1) / 3).toNat + 1 else 0
theorem Qmz (n : Int) : Gb.f n = some (Qcm n : Int) := by
 unfold Gb.f Ha.f Qcm; rw [Qot]; simp only [Option.bind_some]
 by_cases h : Qil n = true
 ·
  have := Qe5 h; rw [if_pos h, if_pos h, if_pos h, Option.bind_some, wrap64_in (n - 1) (by omega), Int.tdiv_eq_ediv_of_nonneg (by omega), wrap64_in ((n - 1) / 3) (by omega), wrap64_in _ (by omega)]; congr 1; omega
 ·
  rw [if_neg h, if_neg h]; rfl
theorem c_gm (a b : Int) : Ge.f a b = some (decide (Gm.Ok (a, b))) := by
 have e : Gm.Ok (a, b) ↔ 0 ≤ a ∧ a < 10007 ∧ 0 ≤ b ∧ b < 10007 := Iff.rfl; unfold Ge.f
 by_cases h1 : a ≥ 0
 ·
  by_cases h2 : a < 10007
  ·
   by_cases h3 : b ≥ 0
   ·
    rw [if_pos h1, if_pos h2, if_pos h3, Option.some.injEq, decide_eq_decide, e]; omega
   ·
    rw [if_pos h1, if_pos h2, if_neg h3, decide_eq_false (fun h => by rw [e] at h; omega)]
  ·
   rw [if_pos h1, if_neg h2, decide_eq_false (fun h => by rw [e] at h; omega)]
 ·
  rw [if_neg h1, decide_eq_false (fun h => by rw [e] at h; omega)]
def Qix (x : Gm.E) (n : Int) : Int := if Qil n = true ∧ Gm.Ok x then 1 + (x.1 * 10007 + x.2) % n else 0
theorem Qj2 (a b n : Int) (hn : Qil n = true) (h : Gm.Ok (a, b)) : wrap64 (1 + Int.tmod (wrap64 (wrap64 (a * 10007) + b)) n) = 1 + (a * 10007 + b) % n := by
 have hm := Qe5 hn; obtain ⟨h1, h2, h3, h4⟩ : 0 ≤ a ∧ a < 10007 ∧ 0 ≤ b ∧ b < 10007 := h; have m1 := Int.emod_nonneg (a * 10007 + b) (show n ≠ 0 by omega); have m2 := Int.emod_lt_of_pos (a * 10007 + b) (show 0 < n by omega); rw [wrap64_in (a * 10007) (by omega), wrap64_in (a * 10007 + b) (by omega), Int.tmod_eq_emod_of_nonneg (by omega), wrap64_in _ (by omega)]
theorem c_lead (a b n : Int) : Gw.f a b n = some (Qix (a, b) n) := by
 unfold Gw.f Qix; rw [Qot, Option.bind_some]
 by_cases hn : Qil n = true
 ·
  have hm := Qe5 hn; rw [if_pos hn, c_gm, Option.bind_some]
  by_cases h : Gm.Ok (a, b)
  ·
   rw [if_pos (decide_eq_true h), if_neg (by omega), if_pos ⟨hn, h⟩, Qj2 a b n hn h]
  ·
   rw [if_neg (by simpa using h), if_neg (fun x => h x.2)]
 ·
  rw [if_neg hn, if_neg (fun x => hn x.1)]
theorem wfI {n : Int} (h : (Lit.int .i64 n).wf = true) : -9223372036854775808 ≤ n ∧ n ≤ 9223372036854775807 := by
 simp [Lit.wf, IntKind.min, IntKind.max, IntKind.signed, IntKind.bits] at h; omega
theorem Qgd (n : Int) : Fv.f n = some (Qil n) := by
 unfold Fv.f Qil
 by_cases h0 : n = 4
 ·
  rw [if_pos h0, decide_eq_true (by omega)]
 ·
  by_cases h1 : n > 4
  ·
   by_cases h2 : n ≤ 64
   ·
    rw [if_neg h0, if_pos h1, if_pos h2, wrap64_in _ (by omega), Int.tmod_eq_emod_of_nonneg (by omega)]; congr 1; rw [Bool.eq_iff_iff, beq_iff_eq, decide_eq_true_iff]; omega
   ·
    rw [if_neg h0, if_pos h1, if_neg h2, decide_eq_false (by omega)]
  ·
   rw [if_neg h0, if_neg h1, decide_eq_false (by omega)]
theorem Qi8 (n : Int) : Gc.f n = some (Qcm n : Int) := by
 unfold Gc.f Qcm; rw [Qgd, Option.bind_some]
 by_cases h : Qil n = true
 ·
  have := Qe5 h; rw [if_pos h, if_pos h, wrap64_in (n - 1) (by omega), Int.tdiv_eq_ediv_of_nonneg (by omega), wrap64_in ((n - 1) / 3) (by omega), wrap64_in _ (by omega)]; congr 1; omega
 ·
  rw [if_neg h, if_neg h]; rfl
theorem c_rgm (a b : Int) : F4.f a b = some (decide (Gm.Ok (a, b))) := by
 have e : Gm.Ok (a, b) ↔ 0 ≤ a ∧ a < 10007 ∧ 0 ≤ b ∧ b < 10007 := Iff.rfl; unfold F4.f
 by_cases h1 : a ≥ 0
 ·
  by_cases h2 : a < 10007
  ·
   by_cases h3 : b ≥ 0
   ·
    rw [if_pos h1, if_pos h2, if_pos h3, Option.some.injEq, decide_eq_decide, e]; omega
   ·
    rw [if_pos h1, if_pos h2, if_neg h3, decide_eq_false (fun h => by rw [e] at h; omega)]
  ·
   rw [if_pos h1, if_neg h2, decide_eq_false (fun h => by rw [e] at h; omega)]
 ·
  rw [if_neg h1, decide_eq_false (fun h => by rw [e] at h; omega)]
theorem c_rlead (a b n : Int) : Gp.f a b n = some (Qix (a, b) n) := by
 unfold Gp.f Qix; rw [Qgd, Option.bind_some, c_rgm, Option.bind_some]
 by_cases hn : Qil n = true
 ·
  have hm := Qe5 hn; rw [if_pos hn]
  by_cases h : Gm.Ok (a, b)
  ·
   rw [if_pos (decide_eq_true h), if_neg (by omega), if_pos ⟨hn, h⟩, Qj2 a b n hn h]
  ·
   rw [if_neg (by simpa using h), if_neg (fun x => h x.2)]
 ·
  rw [if_neg hn, if_neg (fun x => hn x.1)]
def shC (x : S32) : S76 := ⟨x.f1.f0, ⟨x.f1.f4.f0, x.f1.f4.f1⟩⟩
def Qa8 (L : List S32) (r : Int) : List S32 := L.filter fun x => decide (x.f1.f1 = r)
theorem Qb4 (L : List S32) (r : Int) : (Qa8 L r).length ≤ L.length := List.length_filter_le _ _
theorem Qeu (L : List S32) (r : Int) (x : S32) : Qa8 (L ++ [x]) r = if x.f1.f1 = r then Qa8 L r ++ [x] else Qa8 L r := by
 unfold Qa8
 by_cases h : x.f1.f1 = r <;> simp [List.filter_append, h]
theorem rd32 (L : List S32) {i : Nat} (h : i < L.length) : Qab L (i : Int) = L[i] := by
 unfold Qab; rw [Int.toNat_natCast, List.getD_eq_getElem?_getD, List.getElem?_eq_getElem h]; rfl
theorem Qie (L : List S32) (r : Int) (hl : L.length ≤ 1000000) : ∀ (m i : Nat), i + m = L.length → Evk (fun k => Fr.l0 k r (Qa8 (L.take i) r) L (L.length : Int) (i : Int)) (Qa8 L r)
 | 0, i, hi => by
  refine Evk.step (g := fun _ => some (Qa8 L r)) (Evk.const fun _ => rfl) fun k => ?_
  rw [Fr.l0, if_neg (by omega), List.take_of_length_le (by omega)]
 | m + 1, i, hi => by
  have hlt : i < L.length := by omega
  have ih := Qie L r hl m (i + 1) (by omega); have w1 : wrap64 ((i : Int) + 1) = ((i + 1 : Nat) : Int) := by rw [wrap64_in _ (by omega)]; omega
  rw [List.take_succ_eq_append_getElem hlt, Qeu] at ih
  refine ih.step fun k => ?_
  rw [Fr.l0, if_pos (by omega), if_pos (by omega), if_pos (by omega), rd32 L hlt, w1]
  by_cases h : L[i].f1.f1 = r
  ·
   rw [if_pos h, if_pos h, if_pos (by have := Qb4 (L.take i) r; rw [List.length_take] at this; omega)]
  ·
   rw [if_neg h, if_neg h]
theorem Qlx (L : List S32) (n low r : Int) (hl : L.length ≤ 1000000) : Evk (fun k => Fr.f k n low L r) (Qa8 L r) :=
 (Qie L r hl L.length 0 (by omega)).of_eq fun k => by unfold Fr.f; rfl
def Qfk (s : List S76) (n : Int) : Int × Int := if (Fl.openE (eS s) (Fl.wtE (eS s))).2 = 0 then (Qix (Fl.openE (eS s) (Fl.wtE (eS s))).1 n, 0) else (0, (Fl.openE (eS s) (Fl.wtE (eS s))).2)
def Qkx (n : Int) (L : List S32) (wave : Int) : Int × Int :=
 if wave < 1 ∨ 1048576 < wave ∨ Qil n = false then (0, 1)
 else if (Qa8 L (3 * wave)).length < Qcm n then (0, 12)
 else Qfk (((Qa8 L (3 * wave)).take (Qcm n)).map shC) n
theorem Qmr (Y L : List S32) (n low : Int) (hl : Y.length ≤ 1000000) : ∀ (m i : Nat), i + m = Y.length → Evk (fun k => Fc.l0 k ((Y.take i).map shC) Y (Y.length : Int) (i : Int) n low L) (Qfk (Y.map shC) n)
 | 0, i, hi => by
  refine Evk.step (g := fun _ => some (Qfk (Y.map shC) n)) (Evk.const fun _ => rfl) fun k => ?_
  rw [Fc.l0, if_neg (by omega), List.take_of_length_le (by omega)]; unfold Hb.f Qfk; rw [Option.bind_some]; simp only
  by_cases h : (Fl.openE (eS (Y.map shC)) (Fl.wtE (eS (Y.map shC)))).2 = 0
  ·
   rw [if_pos h, if_pos h, c_lead]; rfl
  ·
   rw [if_neg h, if_neg h]
 | m + 1, i, hi => by
  have hlt : i < Y.length := by omega
  have ih := Qmr Y L n low hl m (i + 1) (by omega); have w1 : wrap64 ((i : Int) + 1) = ((i + 1 : Nat) : Int) := by rw [wrap64_in _ (by omega)]; omega
  rw [List.take_succ_eq_append_getElem hlt, List.map_append] at ih
  refine ih.step fun k => ?_
  rw [Fc.l0, if_pos (by omega), if_pos (by omega), if_pos (by omega), if_pos (by rw [List.length_map, List.length_take]; omega), rd32 Y hlt, w1]; rfl
theorem c_rev (L : List S32) (n low wave : Int) (hl : L.length ≤ 1000000) : Evk (fun k => Fc.f k n low L wave) (Qkx n L wave) := by
 have hno : Evk (fun k => Fc.j0 k wave true n low L) (0, 1) := Evk.step (g := fun _ => some (0, 1)) (Evk.const fun _ => rfl) fun k => by rw [Fc.j0, if_pos rfl]
 unfold Qkx
 by_cases h1 : wave < 1
 ·
  rw [if_pos (.inl h1)]
  exact hno.of_eq fun k => by unfold Fc.f; rw [if_pos h1]
 ·
  by_cases h2 : 1048576 < wave
  ·
   rw [if_pos (.inr (.inl h2))]
   exact hno.of_eq fun k => by unfold Fc.f; rw [if_neg h1, if_pos h2]
  ·
   cases hn : Qil n with
   | false =>
    rw [if_pos (.inr (.inr rfl))]
    exact hno.of_eq fun k => by unfold Fc.f; rw [if_neg h1, if_neg h2, Qot, Option.bind_some, hn]; rfl
   | true =>
    rw [if_neg (by rintro (h | h | h) <;> first | omega | cases h)]; have hr := Qlx L n low (3 * wave) hl
    have hj : Evk (fun k => Fc.j0 k wave false n low L) (if (Qa8 L (3 * wave)).length < Qcm n then (0, 12) else Qfk (((Qa8 L (3 * wave)).take (Qcm n)).map shC) n) := by
     refine Evk.step (hr.bind (g := fun k t142 => ((Gb.f n).bind fun t145 => (if (t142.length : Int) < t145 then (some (0, 12)) else ((Gb.f n).bind fun t146 => (if 0 ≤ t146 then (if t146 ≤ (t142.length : Int) then ((some (t142.take (t146 : Int).toNat : List (S32))).bind fun y147 => (Fc.l0 k ([] : List (S76)) y147 (y147.length : Int) 0 n low L)) else (none)) else (none)))))) ?_) fun k => ?_
     ·
      by_cases h3 : (Qa8 L (3 * wave)).length < Qcm n
      ·
       rw [if_pos h3]
       exact Evk.const fun k => by rw [Qmz, Option.bind_some, if_pos (by omega)]
      ·
       rw [if_neg h3]; have hR := Qb4 L (3 * wave)
       refine (Qmr ((Qa8 L (3 * wave)).take (Qcm n)) L n low (by rw [List.length_take]; omega) _ 0 (Nat.zero_add _)).of_eq fun k => ?_
       rw [Qmz, Option.bind_some, if_neg (by omega), Option.bind_some, if_pos (by omega), if_pos (by omega), Option.bind_some, Int.toNat_natCast]; rfl
     ·
      rw [Fc.j0, if_neg (by decide), wrap64_in _ (by omega)]
    exact hj.of_eq fun k => by unfold Fc.f; rw [if_neg h1, if_neg h2, Qot, Option.bind_some, hn]; rfl
theorem Qhy (a b : Int) : F4.f a b = some (decide (Gm.Ok (a, b))) := by
 have e : Gm.Ok (a, b) ↔ 0 ≤ a ∧ a < 10007 ∧ 0 ≤ b ∧ b < 10007 := Iff.rfl; unfold F4.f
 by_cases h1 : a ≥ 0
 ·
  by_cases h2 : a < 10007
  ·
   by_cases h3 : b ≥ 0
   ·
    rw [if_pos h1, if_pos h2, if_pos h3, Option.some.injEq, decide_eq_decide, e]; omega
   ·
    rw [if_pos h1, if_pos h2, if_neg h3, decide_eq_false (fun h => by rw [e] at h; omega)]
  ·
   rw [if_pos h1, if_neg h2, decide_eq_false (fun h => by rw [e] at h; omega)]
 ·
  rw [if_neg h1, decide_eq_false (fun h => by rw [e] at h; omega)]
theorem bp (a c : Int) (h0 : 0 ≤ a) (h1 : a < 10007) (h2 : 0 ≤ c) (h3 : c < 10007) : 0 ≤ a * c ∧ a * c ≤ 100120036 :=
 ⟨Int.mul_nonneg h0 h2, Int.le_trans (Int.mul_le_mul (show a ≤ 10006 by omega) (show c ≤ 10006 by omega) h2 (by omega)) (by decide)⟩
theorem rmulF (a b c d : Int) (h : Gm.Ok (a, b)) (h2 : Gm.Ok (c, d)) : G3.f a b c d = some (Gm.mul (a, b) (c, d)) := by
 have p1 := bp a c h.1 h.2.1 h2.1 h2.2.1; have p2 := bp b d h.2.2.1 h.2.2.2 h2.2.2.1 h2.2.2.2; have p3 := bp a d h.1 h.2.1 h2.2.2.1 h2.2.2.2; have p4 := bp b c h.2.2.1 h.2.2.2 h2.1 h2.2.1; unfold G3.f Gm.mul Gm.gmul Gm.red; rw [Qhy, Qhy]; simp only [Option.bind_some, h, h2, decide_true, if_true]; generalize a * c = u at *
 generalize b * d = v at *
 generalize a * d = s at *
 generalize b * c = t at *
 rw [wrap64_in u (by omega), wrap64_in v (by omega), wrap64_in s (by omega), wrap64_in t (by omega), wrap64_in (u + 100140049) (by omega), wrap64_in _ (by omega), wrap64_in _ (by omega), Int.tmod_eq_emod_of_nonneg (by omega), Int.tmod_eq_emod_of_nonneg (by omega)]; congr 2; omega
theorem rmulN (a b c d : Int) (h : ¬ (Gm.Ok (a, b) ∧ Gm.Ok (c, d))) : G3.f a b c d = some (0, 0) := by
 unfold G3.f; rw [Qhy, Qhy]; simp only [Option.bind_some, decide_eq_true_eq]
 by_cases h1 : Gm.Ok (a, b)
 ·
  rw [if_pos h1, if_neg (fun h2 => h ⟨h1, h2⟩)]
 ·
  rw [if_neg h1]
theorem raddF (a b c d : Int) (h : Gm.Ok (a, b)) (h2 : Gm.Ok (c, d)) : Gi.f a b c d = some (Gm.add (a, b) (c, d)) := by
 have h1' := h; have h2' := h2; unfold Gm.Ok at h1' h2'; simp only at h1' h2'; unfold Gi.f Gm.add Gm.gadd Gm.red; rw [Qhy, Qhy]; simp only [Option.bind_some, h, h2, decide_true, if_true]; rw [wrap64_in _ (by omega), wrap64_in _ (by omega), Int.tmod_eq_emod_of_nonneg (by omega), Int.tmod_eq_emod_of_nonneg (by omega)]
theorem raddN (a b c d : Int) (h : ¬ (Gm.Ok (a, b) ∧ Gm.Ok (c, d))) : Gi.f a b c d = some (0, 0) := by
 unfold Gi.f; rw [Qhy, Qhy]; simp only [Option.bind_some, decide_eq_true_eq]
 by_cases h1 : Gm.Ok (a, b)
 ·
  rw [if_pos h1, if_neg (fun h2 => h ⟨h1, h2⟩)]
 ·
  rw [if_neg h1]
theorem rsubF (a b c d : Int) (h : Gm.Ok (a, b)) (h2 : Gm.Ok (c, d)) : Gk.f a b c d = some (Gm.sub (a, b) (c, d)) := by
 have h1' := h; have h2' := h2; unfold Gm.Ok at h1' h2'; simp only at h1' h2'; unfold Gk.f Gm.sub Gm.gsub Gm.red; rw [Qhy, Qhy]; simp only [Option.bind_some, h, h2, decide_true, if_true]; rw [wrap64_in (a + 10007) (by omega), wrap64_in (b + 10007) (by omega), wrap64_in _ (by omega), wrap64_in _ (by omega), Int.tmod_eq_emod_of_nonneg (by omega), Int.tmod_eq_emod_of_nonneg (by omega)]; congr 2 <;> omega
theorem rsubN (a b c d : Int) (h : ¬ (Gm.Ok (a, b) ∧ Gm.Ok (c, d))) : Gk.f a b c d = some (0, 0) := by
 unfold Gk.f; rw [Qhy, Qhy]; simp only [Option.bind_some, decide_eq_true_eq]
 by_cases h1 : Gm.Ok (a, b)
 ·
  rw [if_pos h1, if_neg (fun h2 => h ⟨h1, h2⟩)]
 ·
  rw [if_neg h1]
theorem qmul (x y : Gm.E) : G3.f x.1 x.2 y.1 y.2 = some (Fl.opE Gm.mul x y) := by
 unfold Fl.opE
 by_cases h : Gm.Ok x ∧ Gm.Ok y
 ·
  rw [if_pos h]; exact rmulF _ _ _ _ h.1 h.2
 ·
  rw [if_neg h]; exact rmulN _ _ _ _ h
theorem qadd (x y : Gm.E) : Gi.f x.1 x.2 y.1 y.2 = some (Fl.opE Gm.add x y) := by
 unfold Fl.opE
 by_cases h : Gm.Ok x ∧ Gm.Ok y
 ·
  rw [if_pos h]; exact raddF _ _ _ _ h.1 h.2
 ·
  rw [if_neg h]; exact raddN _ _ _ _ h
theorem qsub (x y : Gm.E) : Gk.f x.1 x.2 y.1 y.2 = some (Fl.opE Gm.sub x y) := by
 unfold Fl.opE
 by_cases h : Gm.Ok x ∧ Gm.Ok y
 ·
  rw [if_pos h]; exact rsubF _ _ _ _ h.1 h.2
 ·
  rw [if_neg h]; exact rsubN _ _ _ _ h
theorem rnormF (a b : Int) (h : Gm.Ok (a, b)) : Gx.f a b = some (Gm.norm (a, b)) := by
 have p1 := bp a a h.1 h.2.1 h.1 h.2.1; have p2 := bp b b h.2.2.1 h.2.2.2 h.2.2.1 h.2.2.2; unfold Gx.f Gm.norm; rw [Qhy]; simp only [Option.bind_some, h, decide_true, if_true]; rw [wrap64_in (a * a) (by omega), wrap64_in (b * b) (by omega), wrap64_in _ (by omega), Int.tmod_eq_emod_of_nonneg (by omega)]
theorem pm (x : Int) (n : Nat) : (x % 10007) ^ n % 10007 = x ^ n % 10007 := by
 induction n with
 | zero => simp
 | succ n ih => rw [Int.pow_succ, Int.pow_succ, Int.mul_emod, ih, Int.emod_emod_of_dvd _ (Int.dvd_refl _), ← Int.mul_emod]
def QQ : Nat := 10005
theorem wl (m : Nat) : ∀ (k : Nat) (x y : Int), m < 2 ^ k → m ≤ 10005 → 0 ≤ x → x < 10007 → 0 ≤ y → y < 10007 → Fo.l0 (k + 1) x y m = some (y * x ^ m % 10007) := by
 induction m using Nat.strongRecOn with
 | _ m ih =>
  intro k x y hk hm hx hx2 hy hy2; rw [Fo.l0]
  by_cases h0 : m = 0
  ·
   subst h0; rw [if_neg (by decide), Int.pow_zero, Int.mul_one, Int.emod_eq_of_lt hy hy2]
  ·
   rw [if_pos (by omega)]; have p1 := bp x x hx hx2 hx hx2; have p2 := bp y x hy hy2 hx hx2; have e1 : Int.tdiv (m : Int) 2 = ((m / 2 : Nat) : Int) := by rw [Int.tdiv_eq_ediv_of_nonneg (by omega)]; omega
   have e2 : wrap64 ((m / 2 : Nat) : Int) = ((m / 2 : Nat) : Int) := wrap64_in _ (by omega); have e3 : Int.tmod (m : Int) 2 = ((m % 2 : Nat) : Int) := by rw [Int.tmod_eq_emod_of_nonneg (by omega)]; omega
   obtain ⟨k', rfl⟩ : ∃ k', k = k' + 1 := ⟨k - 1, by
    have : k ≠ 0 := by rintro rfl; simp at hk; omega
    omega⟩
   have hk' : m / 2 < 2 ^ k' := by rw [Nat.pow_succ] at hk; omega
   have sq : (x * x % 10007) ^ (m / 2) % 10007 = x ^ (2 * (m / 2)) % 10007 := by
    rw [Int.pow_mul, Int.pow_succ, Int.pow_succ, Int.pow_zero, Int.one_mul, pm]
   rw [e1, e2, e3, wrap64_in (x * x) (by omega), wrap64_in (y * x) (by omega), Int.tmod_eq_emod_of_nonneg p1.1, Int.tmod_eq_emod_of_nonneg p2.1]
   by_cases hodd : m % 2 = 1
   ·
    rw [if_pos (by omega)]; refine (ih (m / 2) (by omega) k' _ _ hk' (by omega) (by omega) (by omega) (by omega) (by omega)).trans ?_
    have e : x ^ m = x * x ^ (2 * (m / 2)) := by
     have e : m = 2 * (m / 2) + 1 := by omega
     have e2 : x ^ m = x ^ (2 * (m / 2) + 1) := congrArg (fun n => x ^ n) e; rw [e2, Int.pow_succ, Int.mul_comm]
    rw [e, ← Int.mul_assoc, Int.mul_emod, sq, ← Int.mul_emod, Int.mul_emod, Int.emod_emod_of_dvd _ (Int.dvd_refl _), ← Int.mul_emod]
   ·
    rw [if_neg (by omega)]; refine (ih (m / 2) (by omega) k' _ _ hk' (by omega) (by omega) (by omega) hy hy2).trans ?_; have e : m = 2 * (m / 2) := by omega
    have e' : x ^ m = x ^ (2 * (m / 2)) := congrArg (fun n => x ^ n) e; rw [e', Int.mul_emod, sq, ← Int.mul_emod]
theorem whole (k : Nat) (n : Int) (h0 : 0 ≤ n) (h1 : n < 10007) : Fo.f (k + 15) n = some (n ^ QQ % 10007) := by
 unfold Fo.f; refine (wl QQ (k + 14) n 1 (Nat.lt_of_lt_of_le (by decide : QQ < 2 ^ 14) (Nat.pow_le_pow_right (by decide) (by omega))) (Nat.le_refl _) h0 h1 (by decide) (by decide)).trans ?_; rw [Int.one_mul]
theorem Qoj {x : Gm.E} (h : Gm.Ok x) (h0 : x ≠ (0, 0)) : Gm.norm x * (Gm.norm x ^ QQ % 10007) % 10007 = 1 := by
 have hn : Gm.norm x % 10007 ≠ 0 := by
  intro e; refine h0 (Gm.norm_zero h ?_); unfold Gm.norm at e ⊢; omega
 have := Gm.fermat_one hn
 have e : Gm.norm x ^ 10006 = Gm.norm x * Gm.norm x ^ QQ := by
  rw [show (10006 : Nat) = QQ + 1 from rfl, Int.pow_succ, Int.mul_comm]
 rw [e] at this; rw [Int.mul_emod, Int.emod_emod_of_dvd _ (Int.dvd_refl _), ← Int.mul_emod]; omega
theorem rinv (a b : Int) (h : Gm.Ok (a, b)) (h0 : (a, b) ≠ ((0, 0) : Gm.E)) : Fk.j0 16 false a b = some ((Gm.pow (a, b) Gm.NN).1, (Gm.pow (a, b) Gm.NN).2, 0) := by
 have h' := h; unfold Gm.Ok at h'; simp only at h'; have bn : 0 ≤ Gm.norm (a, b) ∧ Gm.norm (a, b) < 10007 := by unfold Gm.norm; omega
 rw [Fk.j0, if_neg (by decide), rnormF a b h, Option.bind_some, whole 0 _ bn.1 bn.2, Option.bind_some]; have ni := Qoj h h0; generalize hq : Gm.norm (a, b) ^ QQ % 10007 = q at *
 have bq : 0 ≤ q ∧ q < 10007 := by omega
 have p1 := bp a q h'.1 h'.2.1 bq.1 bq.2
 have e0 : Int.tmod (wrap64 (10007 - b)) 10007 = -b % 10007 := by
  rw [wrap64_in _ (by omega), Int.tmod_eq_emod_of_nonneg (by omega)]; omega
 rw [e0]; have p2 := bp (-b % 10007) q (by omega) (by omega) bq.1 bq.2; rw [wrap64_in (a * q) (by omega), wrap64_in _ (by omega), Int.tmod_eq_emod_of_nonneg p1.1, Int.tmod_eq_emod_of_nonneg p2.1]
 have e : ((a * q % 10007, -b % 10007 * q % 10007) : Gm.E) = Gm.mul (Gm.conj (a, b)) (q, 0) := by
  unfold Gm.mul Gm.gmul Gm.conj Gm.red; simp only [Int.mul_zero, Int.sub_zero, Int.zero_add]; rw [Int.emod_eq_of_lt h'.1 h'.2.1]
 have e2 : Gm.mul (a, b) (Gm.mul (Gm.conj (a, b)) (q, 0)) = (1, 0) := by
  rw [← Gm.mul_assoc, Gm.mul_conj]; unfold Gm.mul Gm.gmul Gm.red; simp only [Int.mul_zero, Int.zero_mul, Int.sub_zero, Int.add_zero]; rw [ni]; rfl
 have e3 := Gm.inv_unique (Gm.pow_ok (a, b) Gm.NN) (Gm.mul_ok _ _) (Gm.mul_inv h h0) e2; rw [e3, ← e]
theorem gI (a b : Int) (h : Gm.Ok (a, b)) (h0 : (a, b) ≠ ((0, 0) : Gm.E)) : Fk.f 16 a b = some ((Gm.pow (a, b) Gm.NN).1, (Gm.pow (a, b) Gm.NN).2, 0) := by
 unfold Fk.f; rw [Qhy, Option.bind_some, if_pos (by simpa using h)]
 by_cases h1 : a = 0
 ·
  have : (b == 0) = false := by
   rw [beq_eq_false_iff_ne]; intro h2; exact h0 (by rw [h1, h2])
  rw [if_pos h1, this]; exact rinv a b h h0
 ·
  rw [if_neg h1]; exact rinv a b h h0
theorem Qfb {i n : Nat} (h : i < n) (hn : n ≤ 9223372036854775000) : wrap64 ((i : Int) + 1) = ((i + 1 : Nat) : Int) := by rw [wrap64_in _ (by omega)]; omega
theorem rd76 (s : List S76) {i : Nat} (hi : i < s.length) : ((Qal s (i : Int)).f0, ((Qal s (i : Int)).f1.f0, (Qal s (i : Int)).f1.f1)) = (eS s).getD i (0, (0, 0)) := by
 unfold eS Qal; simp [List.getElem?_eq_getElem hi]
theorem inv_ev (x : Gm.E) (h : Gm.Ok x) (h0 : x ≠ (0, 0)) : Evk (fun k => Fk.f k x.1 x.2) ((Gm.inv x).1, (Gm.inv x).2, 0) :=
 Evk.of_mono (f := fun k => Fk.f k x.1 x.2) (fun k r h => Fk.mono _ _ _ r h) (gI x.1 x.2 h h0)
theorem Qpv (s : List S76) {i : Nat} (hi : i < s.length) : (Qal s (i : Int)).f0 = Fl.idAt (eS s) i := congrArg (·.1) (rd76 s hi)
theorem v43 (s : List S76) {i : Nat} (hi : i < s.length) : ((Qal s (i : Int)).f1.f0, (Qal s (i : Int)).f1.f1) = Fl.vAt (eS s) i := congrArg (·.2) (rd76 s hi)
theorem Qip {l : Fl.Row} (h : Fl.Apart l) : l.length ≤ 64 := by
 have hd : (l.map (·.1)).Nodup := by
  rw [List.nodup_iff_pairwise_ne, List.pairwise_iff_getElem]; intro i j hi hj hij; rw [List.length_map] at hi hj; have := (h j hj).2.2 i hij; unfold Fl.idAt at this; rw [List.getD_eq_getElem?_getD, List.getD_eq_getElem?_getD, List.getElem?_eq_getElem hi, List.getElem?_eq_getElem hj] at this; rw [List.getElem_map, List.getElem_map]; exact this
 have := Fl.nodup_le 64 (l.map (·.1)) hd (fun x hx => by
  obtain ⟨i, hi, rfl⟩ := List.getElem_of_mem hx; rw [List.length_map] at hi; have := h i hi; unfold Fl.idAt at this; rw [List.getD_eq_getElem?_getD, List.getElem?_eq_getElem hi] at this; rw [List.getElem_map]
  exact ⟨this.1, this.2.1⟩)
 rw [List.length_map] at this; exact this
theorem ap_l1 (l : List S76) (hl : l.length ≤ 9223372036854775000) (r : Bool) (hF : ¬ Fl.Apart (eS l) → r = false) (i : Nat) (hi : i < l.length)
  (cont : (∀ t, t < i → Fl.idAt (eS l) t ≠ Fl.idAt (eS l) i) → Evk (fun k => F7.l0 k l ((i + 1 : Nat) : Int)) r) : ∀ (m j : Nat), j + m = i → (∀ t, t < j → Fl.idAt (eS l) t ≠ Fl.idAt (eS l) i) → Evk (fun k => F7.l1 k l (i : Int) (j : Int)) r
 | 0, j, hj, h => by
  refine (cont (fun t ht => h t (by omega))).step fun k => ?_
  rw [F7.l1, if_neg (by omega), Qfb hi hl]
 | m + 1, j, hj, h => by
  by_cases e : Fl.idAt (eS l) j = Fl.idAt (eS l) i
  ·
   rw [hF (fun ha => (ha i (by rw [Qbd]; exact hi)).2.2 j (by omega) e)]
   refine Evk.step (g := fun _ => some false) (Evk.const fun _ => rfl) fun k => ?_
   rw [F7.l1, if_pos (by omega), if_pos (by omega), if_pos (by omega), if_pos (by omega), if_pos (by omega), Qpv l (show j < l.length by omega), Qpv l hi, if_pos e]
  ·
   refine (ap_l1 l hl r hF i hi cont m (j + 1) (by omega) (fun t ht => by
    by_cases e2 : t = j
    ·
     rw [e2]; exact e
    ·
     exact h t (by omega))).step fun k => ?_
   rw [F7.l1, if_pos (by omega), if_pos (by omega), if_pos (by omega), if_pos (by omega), if_pos (by omega), Qpv l (show j < l.length by omega), Qpv l hi, if_neg e, Qfb (show j < l.length by omega) hl]
theorem ap_l0 (l : List S76) (hl : l.length ≤ 9223372036854775000) (r : Bool) (hT : Fl.Apart (eS l) → r = true) (hF : ¬ Fl.Apart (eS l) → r = false) : ∀ (m i : Nat), i + m = l.length → (∀ j, j < i → 1 ≤ Fl.idAt (eS l) j ∧ Fl.idAt (eS l) j ≤ 64 ∧ ∀ t, t < j → Fl.idAt (eS l) t ≠ Fl.idAt (eS l) j) → Evk (fun k => F7.l0 k l (i : Int)) r
 | 0, i, hi, h => by
  rw [hT (fun j hj => h j (by rw [Qbd] at hj; omega))]
  refine Evk.step (g := fun _ => some true) (Evk.const fun _ => rfl) fun k => ?_
  rw [F7.l0, if_neg (by omega)]
 | m + 1, i, hi, h => by
  have hin : i < l.length := by omega
  by_cases hb : 1 ≤ Fl.idAt (eS l) i ∧ Fl.idAt (eS l) i ≤ 64
  ·
   have h1 := ap_l1 l hl r hF i hin (fun ht => ap_l0 l hl r hT hF m (i + 1) (by omega) (fun j hj => by
    by_cases e : j = i
    ·
     subst e; exact ⟨hb.1, hb.2, ht⟩
    ·
     exact h j (by omega))) i 0 (by omega) (fun t ht => by omega)
   refine (h1.step (f := fun k => F7.j1 k l (i : Int) false) fun k => by rw [F7.j1, if_neg (by decide)]; rfl).step fun k => ?_
   rw [F7.l0, if_pos (by omega), if_pos (by omega), Qpv l hin, if_neg (by omega), show decide (Fl.idAt (eS l) i > 64) = false from decide_eq_false (by omega)]
  ·
   rw [hF (fun ha => hb ⟨(ha i (by rw [Qbd]; exact hin)).1, (ha i (by rw [Qbd]; exact hin)).2.1⟩)]
   refine Evk.step (g := fun k => F7.j1 k l (i : Int) true) (Evk.step (g := fun _ => some false) (Evk.const fun _ => rfl) fun k => by rw [F7.j1, if_pos rfl]) fun k => ?_
   rw [F7.l0, if_pos (by omega), if_pos (by omega), Qpv l hin]
   by_cases h1 : Fl.idAt (eS l) i < 1
   ·
    rw [if_pos h1]
   ·
    rw [if_neg h1, show decide (Fl.idAt (eS l) i > 64) = true from decide_eq_true (by omega)]
theorem ap_ev (l : List S76) (hl : l.length ≤ 9223372036854775000) : Evk (fun k => F7.f k l) (Fl.apB (eS l)) := by
 by_cases h : (l.length : Int) > 64
 ·
  have : Fl.apB (eS l) = false := by
   cases e : Fl.apB (eS l) with
   | false => rfl
   | true =>
    have := Qip ((Fl.apB_iff _).1 e); rw [Qbd] at this; omega
  rw [this]
  exact Evk.const fun k => by unfold F7.f; rw [if_pos h]
 ·
  refine (ap_l0 l hl (Fl.apB (eS l)) (fun ha => (Fl.apB_iff _).2 ha) (fun ha => by
   cases e : Fl.apB (eS l) with
   | false => rfl
   | true => exact absurd ((Fl.apB_iff _).1 e) ha) l.length 0 (by omega) (fun j hj => by omega)).of_eq fun k => ?_
  unfold F7.f; rw [if_neg h]; rfl
def ov (l : Fl.Row) (k i : Nat) : Gm.E := if i = k then (1, 0) else Fl.xAt l i
def un (l : Fl.Row) (k i : Nat) : Gm.E := if i = k then (1, 0) else Gm.sub (Fl.xAt l i) (Fl.xAt l k)
theorem un_ne {l : Fl.Row} (h : Fl.Apart l) {k : Nat} (hk : k < l.length) : Gm.pr (un l k) l.length ≠ (0, 0) := by
 refine Gm.pr_ne (fun i hi => ?_) (fun i hi => ?_)
 ·
  unfold un
  by_cases e : i = k
  ·
   rw [if_pos e]; exact Gm.one_ok
  ·
   rw [if_neg e]; exact Gm.sub_ok _ _
 ·
  unfold un
  by_cases e : i = k
  ·
   rw [if_pos e]; decide
  ·
   rw [if_neg e]; exact Fl.sub_ne (h.x_ok i hi) (h.x_ok k hk) (fun x => e (h.inj i k hi hk x))
theorem Qox {l : Fl.Row} (h : Fl.Apart l) {k : Nat} (hk : k < l.length) : Gm.mul (Gm.pr (ov l k) l.length) (Gm.inv (Gm.pr (un l k) l.length)) = Gm.lag (Fl.xAt l) l.length (0, 0) k := by
 have e : Gm.pr (ov l k) l.length = Gm.mul (Gm.lag (Fl.xAt l) l.length (0, 0) k) (Gm.pr (un l k) l.length) := by
  unfold Gm.lag; rw [← Gm.pr_mul]
  refine Gm.pr_congr fun i hi => ?_
  unfold ov un Gm.fac
  by_cases e : i = k
  ·
   rw [if_pos e, if_pos e, if_pos e]; decide
  ·
   rw [if_neg e, if_neg e, if_neg e, Gm.sub_zero (h.x_ok i hi), Gm.mul_assoc, Gm.mul_comm (Gm.inv _), Gm.mul_inv' (Gm.sub_ok _ _) (Fl.sub_ne (h.x_ok i hi) (h.x_ok k hk) (fun x => e (h.inj i k hi hk x))), Gm.mul_one (h.x_ok i hi)]
 rw [e, Gm.mul_assoc, Gm.mul_inv' (Gm.pr_ok _ _) (un_ne h hk), Gm.mul_one (Fl.lag_ok _ _ _ _)]
theorem rw_l0 (l : List S76) (hl : l.length ≤ 9223372036854775000) (hap : Fl.Apart (eS l)) (a : Nat) (ha : a < l.length) : ∀ (m i : Nat), i + m = l.length →
  Evk (fun k => Fh.l0 k l (a : Int) (i : Int) (Gm.pr (ov (eS l) a) i).1 (Gm.pr (ov (eS l) a) i).2 (Gm.pr (un (eS l) a) i).1 (Gm.pr (un (eS l) a) i).2) ((Fl.wtE (eS l) a).1, (Fl.wtE (eS l) a).2, 0)
 | 0, i, hi => by
  have hSl := Qbd l; obtain ⟨ki, hi2⟩ := inv_ev (Gm.pr (un (eS l) a) i) (Gm.pr_ok _ _) (by rw [show i = (eS l).length by omega]; exact un_ne hap (by omega)); have hi2 : ∀ k, ki ≤ k → Fk.f k _ _ = _ := hi2; refine ⟨ki + 1, fun k hk => ?_⟩; obtain ⟨k', rfl⟩ : ∃ k', k = k' + 1 := ⟨k - 1, by omega⟩; show Fh.l0 (k' + 1) l (a : Int) (i : Int) _ _ _ _ = _; rw [Fh.l0, if_neg (by omega), hi2 k' (by omega), Option.bind_some]; simp only; rw [qmul, Option.bind_some, Fl.opE_of (Gm.pr_ok _ _) (Gm.inv_ok _), show i = (eS l).length by omega, Qox hap (by omega), Fl.wtE_lag hap (by omega)]
 | m + 1, i, hi => by
  have hSl := Qbd l; have hin : i < l.length := by omega
  have ih := rw_l0 l hl hap a ha m (i + 1) (by omega)
  refine ih.step fun k => ?_
  rw [Fh.l0, if_pos (by omega), Qfb hin hl, Gm.pr, Gm.pr]
  by_cases e : i = a
  ·
   rw [if_pos (by omega), show ov (eS l) a i = (1, 0) from if_pos e, show un (eS l) a i = (1, 0) from if_pos e, Gm.mul_one (Gm.pr_ok _ _), Gm.mul_one (Gm.pr_ok _ _)]
  ·
   have ox := hap.x_ok i (by omega); have oa := hap.x_ok a (by omega); have q1 := qmul (Gm.pr (ov (eS l) a) i) (Fl.xAt (eS l) i); have q2 := qsub (Fl.xAt (eS l) i) (Fl.xAt (eS l) a); rw [Fl.opE_of (Gm.pr_ok _ _) ox] at q1; rw [Fl.opE_of ox oa] at q2; have x1 : (Fl.xAt (eS l) i).1 = Fl.idAt (eS l) i := rfl; have x2 : (Fl.xAt (eS l) i).2 = 0 := rfl; have y1 : (Fl.xAt (eS l) a).1 = Fl.idAt (eS l) a := rfl; have y2 : (Fl.xAt (eS l) a).2 = 0 := rfl; rw [x1, x2] at q1; rw [x1, x2, y1, y2] at q2; rw [if_neg (by omega), if_pos (by omega), Qpv l hin, Qpv l ha, q1, Option.bind_some, if_pos (by omega), if_pos (by omega), q2, Option.bind_some, qmul, Option.bind_some, Fl.opE_of (Gm.pr_ok _ _) (Gm.sub_ok _ _), show ov (eS l) a i = Fl.xAt (eS l) i from if_neg e, show un (eS l) a i = Gm.sub (Fl.xAt (eS l) i) (Fl.xAt (eS l) a) from if_neg e]
def wR (l : List S76) (a : Int) : Int × Int × Int := if Fl.apB (eS l) = true ∧ 0 ≤ a ∧ a < (l.length : Int) then ((Fl.wtE (eS l) a.toNat).1, (Fl.wtE (eS l) a.toNat).2, 0) else (0, 0, 1)
theorem rw_ev (l : List S76) (hl : l.length ≤ 9223372036854775000) (a : Int) : Evk (fun k => Fh.f k l a) (wR l a) := by
 have hno : Evk (fun k => Fh.j0 k l a true) (0, 0, 1) := Evk.step (g := fun _ => some (0, 0, 1)) (Evk.const fun _ => rfl) fun k => by rw [Fh.j0, if_pos rfl]
 refine Evk.bind (f := fun k => F7.f k l) (g := fun k t => if t = true then (if a < 0 then (Fh.j0 k l a true) else (Fh.j0 k l a (decide (a ≥ (l.length : Int))))) else (Fh.j0 k l a true)) (ap_ev l hl) ?_; unfold wR
 by_cases h1 : Fl.apB (eS l) = true
 ·
  by_cases h2 : a < 0
  ·
   rw [if_neg (by rintro ⟨_, h, _⟩; omega)]
   exact hno.of_eq fun k => by rw [if_pos h1, if_pos h2]
  ·
   by_cases h3 : a ≥ (l.length : Int)
   ·
    rw [if_neg (by rintro ⟨_, _, h⟩; omega)]
    exact hno.of_eq fun k => by rw [if_pos h1, if_neg h2, decide_eq_true h3]
   ·
    rw [if_pos ⟨h1, by omega, by omega⟩]; obtain ⟨n, rfl⟩ := Int.eq_ofNat_of_zero_le (show 0 ≤ a by omega); rw [Int.toNat_natCast]
    refine (Evk.step (f := fun k => Fh.j0 k l (n : Int) false) (rw_l0 l hl ((Fl.apB_iff _).1 h1) n (by omega) l.length 0 (by omega)) fun k => ?_).of_eq fun k => by rw [if_pos h1, if_neg h2, decide_eq_false h3]
    rw [Fh.j0, if_neg (by decide)]; rfl
 ·
  rw [if_neg (by rintro ⟨h, _⟩; exact h1 h)]
  exact hno.of_eq fun k => by rw [if_neg h1]
theorem ro_a (l : List S76) (hl : l.length ≤ 9223372036854775000) (hap : Fl.Apart (eS l)) (hok : ∀ i, i < (eS l).length → Gm.Ok (Fl.vAt (eS l) i)) (g : Nat → Gm.E) (hg : ∀ i, i < l.length → g i = Gm.mul (Fl.vAt (eS l) i) (Fl.wtE (eS l) i)) : ∀ (m i : Nat), i + m = l.length →
  Evk (fun k => Fa.l0 k l (i : Int) (Gm.sm g i).1 (Gm.sm g i).2) ((Gm.sm g l.length).1, (Gm.sm g l.length).2, 0)
 | 0, i, hi => by
  refine Evk.step (g := fun _ => some ((Gm.sm g l.length).1, (Gm.sm g l.length).2, 0)) (Evk.const fun _ => rfl) fun k => ?_
  rw [Fa.l0, if_neg (by omega), show i = l.length by omega]
 | m + 1, i, hi => by
  have hSl := Qbd l; have hin : i < l.length := by omega
  have ih := ro_a l hl hap hok g hg m (i + 1) (by omega); have hw := rw_ev l hl (i : Int); rw [show wR l (i : Int) = ((Fl.wtE (eS l) i).1, (Fl.wtE (eS l) i).2, 0) from by unfold wR; rw [if_pos ⟨(Fl.apB_iff _).2 hap, by omega, by omega⟩, Int.toNat_natCast]] at hw; have ow : Gm.Ok (Fl.wtE (eS l) i) := by rw [Fl.wtE_lag hap (by omega)]; exact Fl.lag_ok _ _ _ _
  have q1 := qmul (Fl.vAt (eS l) i) (Fl.wtE (eS l) i); rw [Fl.opE_of (hok i (by omega)) ow] at q1; have e1 : (Fl.vAt (eS l) i).1 = (Qal l (i : Int)).f1.f0 := by rw [← v43 l hin]
  have e2 : (Fl.vAt (eS l) i).2 = (Qal l (i : Int)).f1.f1 := by rw [← v43 l hin]
  rw [e1, e2] at q1; obtain ⟨kw, hw⟩ := hw; obtain ⟨kh, ih⟩ := ih; have hw : ∀ k, kw ≤ k → Fh.f k l (i : Int) = _ := hw; have ih : ∀ k, kh ≤ k → Fa.l0 k l ((i + 1 : Nat) : Int) _ _ = _ := ih; refine ⟨max kw kh + 1, fun k hk => ?_⟩; obtain ⟨k', rfl⟩ : ∃ k', k = k' + 1 := ⟨k - 1, by omega⟩; show Fa.l0 (k' + 1) l (i : Int) _ _ = _; rw [Fa.l0, if_pos (by omega), if_pos (by omega), Qhy, Option.bind_some, v43 l hin, if_pos (by simpa using hok i (by omega)), hw k' (by omega), Option.bind_some]; simp only; rw [q1, Option.bind_some, qadd, Option.bind_some, Fl.opE_of (Gm.sm_ok _ _) (Gm.mul_ok _ _), Qfb hin hl, ← hg i hin]; exact ih k' (by omega)
theorem ro_b (l : List S76) (hl : l.length ≤ 9223372036854775000) : ∀ (m i : Nat) (o : Gm.E), i + m = l.length → (∃ j, i ≤ j ∧ j < l.length ∧ ¬ Gm.Ok (Fl.vAt (eS l) j)) → Evk (fun k => Fa.l0 k l (i : Int) o.1 o.2) (0, 0, 1)
 | 0, i, o, hi, h => by obtain ⟨j, h1, h2, _⟩ := h; omega
 | m + 1, i, o, hi, h => by
  have hin : i < l.length := by omega
  by_cases ok : Gm.Ok (Fl.vAt (eS l) i)
  ·
   obtain ⟨j, h1, h2, h3⟩ := h; have hne : j ≠ i := by rintro rfl; exact h3 ok
   obtain ⟨kw, hw⟩ := rw_ev l hl (i : Int); have hw : ∀ k, kw ≤ k → Fh.f k l (i : Int) = _ := hw; obtain ⟨kh, ih⟩ := ro_b l hl m (i + 1) (Fl.opE Gm.add o (Fl.opE Gm.mul ((Qal l (i : Int)).f1.f0, (Qal l (i : Int)).f1.f1) ((wR l (i : Int)).1, (wR l (i : Int)).2.1))) (by omega) ⟨j, by omega, h2, h3⟩; have ih : ∀ k, kh ≤ k → Fa.l0 k l ((i + 1 : Nat) : Int) _ _ = _ := ih; refine ⟨max kw kh + 1, fun k hk => ?_⟩; obtain ⟨k', rfl⟩ : ∃ k', k = k' + 1 := ⟨k - 1, by omega⟩; show Fa.l0 (k' + 1) l (i : Int) _ _ = _; have q1 := qmul ((Qal l (i : Int)).f1.f0, (Qal l (i : Int)).f1.f1) ((wR l (i : Int)).1, (wR l (i : Int)).2.1); simp only at q1; rw [Fa.l0, if_pos (by omega), if_pos (by omega), Qhy, Option.bind_some, v43 l hin, if_pos (by simpa using ok), hw k' (by omega), Option.bind_some, q1, Option.bind_some, qadd, Option.bind_some, Qfb hin hl]; exact ih k' (by omega)
  ·
   refine Evk.step (g := fun _ => some (0, 0, 1)) (Evk.const fun _ => rfl) fun k => ?_
   rw [Fa.l0, if_pos (by omega), if_pos (by omega), Qhy, Option.bind_some, v43 l hin, if_neg (by simpa using ok)]
theorem ro_ev (l : List S76) (hl : l.length ≤ 9223372036854775000) : Evk (fun k => Fa.f k l) ((Fl.openE (eS l) (Fl.wtE (eS l))).1.1, (Fl.openE (eS l) (Fl.wtE (eS l))).1.2, (Fl.openE (eS l) (Fl.wtE (eS l))).2) := by
 have hSl := Qbd l
 have hno : Evk (fun k => Fa.j0 k l true) (0, 0, 1) := Evk.step (g := fun _ => some (0, 0, 1)) (Evk.const fun _ => rfl) fun k => by rw [Fa.j0, if_pos rfl]
 refine Evk.bind (f := fun k => F7.f k l) (g := fun k t => if t = true then (Fa.j0 k l ((l.length : Int) == 0)) else (Fa.j0 k l true)) (ap_ev l hl) ?_
 by_cases h : (eS l).length ≠ 0 ∧ Fl.Apart (eS l) ∧ ∀ i, i < (eS l).length → Gm.Ok (Fl.vAt (eS l) i)
 ·
  obtain ⟨h0, hap, hok⟩ := h; have hb : ((l.length : Int) == 0) = false := by rw [beq_eq_false_iff_ne]; omega
  rw [Fl.openE_yes h0 hap hok]; have ha := ro_a l hl hap hok (fun k => Gm.mul (Fl.vAt (eS l) k) (Fl.wtE (eS l) k)) (fun _ _ => rfl) l.length 0 (by omega)
  have e : Gm.sm (fun k => Gm.mul (Fl.vAt (eS l) k) (Fl.wtE (eS l) k)) l.length = Fl.secret (eS l) := by
   unfold Fl.secret; rw [hSl]
   exact Gm.sm_congr fun i hi => by rw [Fl.wtE_lag hap (by omega), hSl]
  rw [e] at ha
  refine (ha.step (f := fun k => Fa.j0 k l false) fun k => ?_).of_eq fun k => by rw [(Fl.apB_iff _).2 hap, if_pos rfl, hb]
  rw [Fa.j0, if_neg (by decide)]; rfl
 ·
  rw [Fl.openE_no h]
  by_cases h1 : Fl.apB (eS l) = true
  ·
   by_cases h0 : l.length = 0
   ·
    exact hno.of_eq fun k => by rw [if_pos h1, show ((l.length : Int) == 0) = true from by rw [h0]; rfl]
   ·
    have hb : ((l.length : Int) == 0) = false := by rw [beq_eq_false_iff_ne]; omega
    have hbad : ∃ j, 0 ≤ j ∧ j < l.length ∧ ¬ Gm.Ok (Fl.vAt (eS l) j) := by
     refine Classical.byContradiction fun hn => h ⟨by omega, (Fl.apB_iff _).1 h1, fun i hi => Classical.byContradiction fun ho => hn ⟨i, Nat.zero_le _, by omega, ho⟩⟩
    refine ((ro_b l hl l.length 0 (0, 0) (by omega) hbad).step (f := fun k => Fa.j0 k l false) fun k => ?_).of_eq fun k => by rw [if_pos h1, hb]
    rw [Fa.j0, if_neg (by decide)]; rfl
  ·
   exact hno.of_eq fun k => by rw [if_neg h1]
theorem Qhw (L : List S32) (n low r : Int) (hl : L.length ≤ 1000000) : ∀ (m i : Nat), i + m = L.length → Evk (fun k => F6.l0 k r (Qa8 (L.take i) r) (i : Int) n low L) (Qa8 L r)
 | 0, i, hi => by
  refine Evk.step (g := fun _ => some (Qa8 L r)) (Evk.const fun _ => rfl) fun k => ?_
  rw [F6.l0, if_neg (by omega), List.take_of_length_le (by omega)]
 | m + 1, i, hi => by
  have hlt : i < L.length := by omega
  have ih := Qhw L n low r hl m (i + 1) (by omega); have w1 : wrap64 ((i : Int) + 1) = ((i + 1 : Nat) : Int) := by rw [wrap64_in _ (by omega)]; omega
  rw [List.take_succ_eq_append_getElem hlt, Qeu] at ih
  refine ih.step fun k => ?_
  rw [F6.l0, if_pos (by omega), if_pos (by omega), rd32 L hlt, w1]
  by_cases h : L[i].f1.f1 = r
  ·
   rw [if_pos h, if_pos h, if_pos (by have := Qb4 (L.take i) r; rw [List.length_take] at this; omega)]
  ·
   rw [if_neg h, if_neg h]
theorem Qma (L : List S32) (n low r : Int) (hl : L.length ≤ 1000000) : Evk (fun k => F6.f k n low L r) (Qa8 L r) :=
 (Qhw L n low r hl L.length 0 (by omega)).of_eq fun k => by unfold F6.f; rfl
theorem Qm1 (X L : List S32) (n low : Int) (hl : X.length ≤ 1000000) (v : Nat) (hv : v ≤ X.length) : ∀ (m i : Nat), i + m = v → Evk (fun k => Ff.l0 k X (v : Int) ((X.take i).map shC) (i : Int) n low L) (Qfk ((X.take v).map shC) n)
 | 0, i, hi => by
  have ho := ro_ev ((X.take v).map shC) (by rw [List.length_map, List.length_take]; omega)
  refine Evk.step (ho.bind (g := fun k bt243 => (if bt243.2.2 = 0 then ((Gp.f bt243.1 bt243.2.1 n).bind fun t247 => (some (t247, 0))) else (some (0, bt243.2.2)))) ?_) fun k => ?_
  ·
   unfold Qfk
   by_cases h : (Fl.openE (eS ((X.take v).map shC)) (Fl.wtE (eS ((X.take v).map shC)))).2 = 0
   ·
    rw [if_pos h]
    exact Evk.const fun k => by simp only; rw [if_pos h, c_rlead]; rfl
   ·
    rw [if_neg h]
    exact Evk.const fun k => by simp only; rw [if_neg h]
  ·
   rw [Ff.l0, if_neg (by omega), show i = v by omega]
 | m + 1, i, hi => by
  have hlt : i < X.length := by omega
  have ih := Qm1 X L n low hl v hv m (i + 1) (by omega); have w1 : wrap64 ((i : Int) + 1) = ((i + 1 : Nat) : Int) := by rw [wrap64_in _ (by omega)]; omega
  rw [List.take_succ_eq_append_getElem hlt, List.map_append] at ih
  refine ih.step fun k => ?_
  rw [Ff.l0, if_pos (by omega), if_pos (by omega), if_pos (by omega), if_pos (by rw [List.length_map, List.length_take]; omega), rd32 X hlt, w1]; rfl
theorem r_rev (L : List S32) (n low wave : Int) (hl : L.length ≤ 1000000) : Evk (fun k => Ff.f k n low L wave) (Qkx n L wave) := by
 have hno : Evk (fun k => Ff.j0 k wave true n low L) (0, 1) := Evk.step (g := fun _ => some (0, 1)) (Evk.const fun _ => rfl) fun k => by rw [Ff.j0, if_pos rfl]
 unfold Qkx
 by_cases h1 : wave < 1
 ·
  rw [if_pos (.inl h1)]
  exact hno.of_eq fun k => by unfold Ff.f; rw [Qgd, Option.bind_some, if_pos h1]
 ·
  by_cases h2 : 1048576 < wave
  ·
   rw [if_pos (.inr (.inl h2))]
   exact hno.of_eq fun k => by unfold Ff.f; rw [Qgd, Option.bind_some, if_neg h1, if_pos h2]
  ·
   cases hn : Qil n with
   | false =>
    rw [if_pos (.inr (.inr rfl))]
    exact hno.of_eq fun k => by unfold Ff.f; rw [Qgd, Option.bind_some, if_neg h1, if_neg h2, hn]; rfl
   | true =>
    rw [if_neg (by rintro (h | h | h) <;> first | omega | cases h)]; have hr := Qma L n low (3 * wave) hl
    have hj : Evk (fun k => Ff.j0 k wave false n low L) (if (Qa8 L (3 * wave)).length < Qcm n then (0, 12) else Qfk (((Qa8 L (3 * wave)).take (Qcm n)).map shC) n) := by
     refine Evk.step (hr.bind (g := fun k t234 => ((Gc.f n).bind fun t237 => (if (t234.length : Int) < t237 then (some (0, 12)) else (Ff.l0 k t234 t237 ([] : List (S76)) 0 n low L)))) ?_) fun k => ?_
     ·
      by_cases h3 : (Qa8 L (3 * wave)).length < Qcm n
      ·
       rw [if_pos h3]
       exact Evk.const fun k => by rw [Qi8, Option.bind_some, if_pos (by omega)]
      ·
       rw [if_neg h3]; have hR := Qb4 L (3 * wave)
       refine (Qm1 (Qa8 L (3 * wave)) L n low (by omega) (Qcm n) (by omega) _ 0 (Nat.zero_add _)).of_eq fun k => ?_
       rw [Qi8, Option.bind_some, if_neg (by omega)]; rfl
     ·
      rw [Ff.j0, if_neg (by decide), wrap64_in _ (by omega)]
    exact hj.of_eq fun k => by unfold Ff.f; rw [Qgd, Option.bind_some, if_neg h1, if_neg h2, hn]; rfl
structure Qa4 (l : List SE) : Prop where
 few : l.length ≤ 60
 ok : Si.okX (l.map Qb3) = true
 bd : ∀ x ∈ l, -9223372036854775808 ≤ x.f1.f1 ∧ x.f1.f1 ≤ 60
 pm : ∀ x ∈ l, x.f1.f3.length ≤ 1048576
def fineB (l : List SE) : Bool := decide (l.length ≤ 60) && Si.okX (l.map Qb3) && l.all (fun x => decide (-1000 ≤ x.f1.f1 ∧ x.f1.f1 ≤ 60)) && l.all (fun x => decide (x.f1.f3.length ≤ 100))
theorem Qmb (l : List SE) (h : fineB l = true) : Qa4 l := by
 unfold fineB at h; rw [Bool.and_eq_true, Bool.and_eq_true, Bool.and_eq_true, List.all_eq_true, List.all_eq_true] at h; exact ⟨of_decide_eq_true h.1.1.1, h.1.1.2, fun x hx => by have := of_decide_eq_true (h.1.2 x hx); omega, fun x hx => by have := of_decide_eq_true (h.2 x hx); omega⟩
theorem Qa4.ro {l : List SE} (h : Qa4 l) : ∀ x ∈ l, x.f1.f1 ≤ 60 := fun x hx => (h.bd x hx).2
theorem Qa4.wf {l : List SE} (h : Qa4 l) : ∀ x ∈ l, -9223372036854775808 ≤ x.f1.f1 := fun x hx => (h.bd x hx).1
theorem Qa4.ps {l : List SE} (h : Qa4 l) : ∀ x ∈ l, x.f1.f3.length ≤ 1099511627776 := fun x hx => by have := h.pm x hx; omega
theorem Qa4.dg {l : List SE} (h : Qa4 l) : ∀ x ∈ l, x.f0.size ≤ 140737488351232 := fun x hx => (((Si.okX_iff _).1 h.ok).2.1 _ (List.mem_map.2 ⟨x, hx, rfl⟩)).1
def Qeh (r : Int) : Int := if r < 1 then 0 else (r - 1) / 3 + 1
theorem Qoo (r : Int) (h : r ≤ 60) : 0 ≤ Qeh r ∧ Qeh r ≤ 20 := by unfold Qeh; split <;> omega
theorem c_wave (r : Int) (h : r ≤ 60) : Gy.f r = some (Qeh r) := by
 unfold Gy.f Qeh
 by_cases h1 : r < 1
 ·
  rw [if_pos h1, if_pos h1]
 ·
  rw [if_neg h1, if_neg h1, w64 (r - 1) (by omega) (by omega), Int.tdiv_eq_ediv_of_nonneg (by omega), w64 ((r - 1) / 3) (by omega) (by omega), w64 _ (by omega) (by omega)]
theorem r_wave (r : Int) (h : r ≤ 60) : Gq.f r = some (Qeh r) := by
 unfold Gq.f Qeh
 by_cases h1 : r < 1
 ·
  rw [if_pos h1, if_pos h1]
 ·
  rw [if_neg h1, if_neg h1, Int.tmod_eq_emod_of_nonneg (by omega), Int.tdiv_eq_ediv_of_nonneg (by omega), w64 (r / 3) (by omega) (by omega), w64 (r / 3 + 1) (by omega) (by omega)]
  by_cases h2 : r % 3 = 0
  ·
   rw [if_pos h2]; congr 1; omega
  ·
   rw [if_neg h2]; congr 1; omega
def Qeo (T : Int) : List SE → Int
 | [] => T
 | x :: r => Qeo (mx T (Qeh x.f1.f1)) r
theorem mx_gt (a b : Int) : (if b > a then b else a) = mx a b := rfl
theorem top_l {l : List SE} (hf : Qa4 l) : ∀ (n i : Nat) (T : Int), i + n = l.length → Evk (fun k => G4.l0 k T l (l.length : Int) (i : Int)) (Qeo T (l.drop i))
 | 0, i, T, h => by
  rw [List.drop_eq_nil_of_le (by omega)]; exact Evk.step (Evk.ret T) (fun k => by rw [G4.l0, if_neg (by omega)])
 | n + 1, i, T, h => by
  have hi : i < l.length := by omega
  have hl := hf.few; rw [List.drop_eq_getElem_cons hi]; exact Evk.step (top_l hf n (i + 1) (mx T (Qeh (l[i]).f1.f1)) (by omega)) (fun k => by rw [G4.l0, if_pos (by omega), if_pos (by omega), if_pos (by omega), Qbf l i hi, c_wave _ (hf.ro _ (List.getElem_mem hi)), Option.bind_some, ws i (by omega)])
theorem Qp3 {l : List SE} (hf : Qa4 l) (a b : Int) : ∀ (n i : Nat) (T : Int), i + n = l.length → Evk (fun k => G7.l0 k T (i : Int) a b l) (Qeo T (l.drop i))
 | 0, i, T, h => by
  rw [List.drop_eq_nil_of_le (by omega)]; exact Evk.step (Evk.ret T) (fun k => by rw [G7.l0, if_neg (by omega)])
 | n + 1, i, T, h => by
  have hi : i < l.length := by omega
  have hl := hf.few; rw [List.drop_eq_getElem_cons hi]; have ih := Qp3 hf a b n (i + 1) (mx T (Qeh (l[i]).f1.f1)) (by omega); refine Evk.step ih (fun k => ?_); rw [G7.l0, if_pos (by omega), if_pos (by omega), Qbf l i hi, r_wave _ (hf.ro _ (List.getElem_mem hi)), Option.bind_some, ws i (by omega), ← mx_gt]
  by_cases h1 : Qeh (l[i]).f1.f1 > T
  ·
   rw [if_pos h1, if_pos h1]
  ·
   rw [if_neg h1, if_neg h1]
theorem c_top {l : List SE} (hf : Qa4 l) (a b : Int) : Evk (fun k => G4.f k a b l) (Qeo 0 l) := Evk.of_eq (top_l hf l.length 0 0 (by omega)) (fun k => by unfold G4.f; rfl)
theorem r_top {l : List SE} (hf : Qa4 l) (a b : Int) : Evk (fun k => G7.f k a b l) (Qeo 0 l) := Evk.of_eq (Qp3 hf a b l.length 0 0 (by omega)) (fun k => by unfold G7.f; rfl)
def Qp1 (m : List SE) (dg : ByteArray) : Nat := (m.filter (fun y => y.f1.f3.contains dg)).length
theorem Qig (x : SE) (m : List SE) (dg : ByteArray) : (Qp1 (x :: m) dg : Int) = (if x.f1.f3.contains dg = true then 1 else 0) + (Qp1 m dg : Int) := by
 unfold Qp1; rw [List.filter_cons]
 by_cases h : x.f1.f3.contains dg = true
 ·
  rw [if_pos h, if_pos h, List.length_cons]; omega
 ·
  rw [if_neg h, if_neg h]; omega
theorem Qe4 (m : List SE) (hm : m.length ≤ 60) (hp : ∀ x ∈ m, x.f1.f3.length ≤ 1099511627776) (dg : ByteArray) (g1 g2 : Int) (g3 : List Qaz) (g4 : List ByteArray) (g5 g6 : Int) : ∀ (n i : Nat) (s : Int), i + n = m.length → 0 ≤ s → s ≤ i → Evk (fun k => G5.l0 k s m (m.length : Int) (i : Int) dg g1 g2 g3 g4 g5 g6) (s + (Qp1 (m.drop i) dg : Int))
 | 0, i, s, h, h0, h1 => by
  rw [List.drop_eq_nil_of_le (by omega)]; refine Evk.step (Evk.ret _) (fun k => ?_); rw [G5.l0, if_neg (by omega)]; simp [Qp1]
 | n + 1, i, s, h, h0, h1 => by
  have hi : i < m.length := by omega
  have hc := Qjj (m[i]).f1.f3 (hp _ (List.getElem_mem hi)) dg; rw [List.drop_eq_getElem_cons hi, Qig]; refine Qbp ?_; have c1 : ((i : Int) < (m.length : Int)) = True := eq_true (by omega); have c2 : (0 ≤ (i : Int)) = True := eq_true (by omega); simp only [G5.l0, c1, c2, if_true, Qbf m i hi]; refine Evk.bind hc ?_
  cases hb : (m[i]).f1.f3.contains dg with
  | true =>
   have ih := Qe4 m hm hp dg g1 g2 g3 g4 g5 g6 n (i + 1) (s + 1) (by omega) (by omega) (by omega); refine Evk.of_eq ?_ (fun k => if_pos rfl); rw [if_pos rfl, ws i (by omega), w64 (s + 1) (by omega) (by omega), ← Int.add_assoc]; exact ih
  | false =>
   have ih := Qe4 m hm hp dg g1 g2 g3 g4 g5 g6 n (i + 1) s (by omega) (by omega) (by omega); refine Evk.of_eq ?_ (fun k => if_neg (by decide)); rw [if_neg (by decide), ws i (by omega), Int.zero_add]; exact ih
def Qk8 (l : List SE) (dg : ByteArray) (ro : Int) : Nat := Qp1 (Qa8 l (wrap64 (ro + 1))) dg
theorem Qk4 {l : List SE} (hf : Qa4 l) (a b : Int) (dg : ByteArray) (au ro : Int) (g3 : List Qaz) (g4 : List ByteArray) (g5 g6 : Int) : Evk (fun k => G5.f k a b l dg au ro g3 g4 g5 g6) (Qk8 l dg ro : Int) := by
 have hl := hf.few; have hr := Qb4 l (wrap64 (ro + 1)); refine Evk.of_eq (Evk.bind (Qlx l a b (wrap64 (ro + 1)) (by omega)) ?_) (fun k => by unfold G5.f; rfl); have h := Qe4 (Qa8 l (wrap64 (ro + 1))) (by omega) (fun x hx => hf.ps x (List.mem_filter.1 hx).1) dg au ro g3 g4 g5 g6 _ 0 0 (Nat.zero_add _) (by omega) (by omega); rw [List.drop_zero, Int.zero_add] at h; exact h
theorem Qjl (m : List SE) (i : Nat) (hi : i < m.length) (dg : ByteArray) (g1 g2 : Int) (g3 : List Qaz) (g4 : List ByteArray) (g5 g6 : Int) (hi2 : i ≤ 60) (s : Int) {v : Int} (ps : List ByteArray) (hps : (m[i]).f1.f3 = ps) (hl : ps.length ≤ 1099511627776)
  (hn : Evk (fun k => Fn.l0 k m (if ps.contains dg = true then wrap64 (s + 1) else s) ((i + 1 : Nat) : Int) dg g1 g2 g3 g4 g5 g6) v) : ∀ (n j : Nat) (ov : Bool), j + n = ps.length → (ov || (ps.drop j).contains dg) = ps.contains dg → Evk (fun k => Fn.l1 k m s (i : Int) ov (j : Int) dg g1 g2 g3 g4 g5 g6) v
 | 0, j, ov, h, ho => by
  rw [List.drop_eq_nil_of_le (by omega), List.contains_nil, Bool.or_false] at ho; rw [← ho] at hn; refine Evk.step hn (fun k => ?_); rw [Fn.l1, if_pos (by omega), if_pos (by omega), Qbf m i hi, hps, if_neg (by omega), ws i (by omega)]
  cases ov with
  | true => rw [if_pos rfl, if_pos rfl]
  | false => rw [if_neg (by decide), if_neg (by decide)]
 | n + 1, j, ov, h, ho => by
  have hj : j < ps.length := by omega
  rw [List.drop_eq_getElem_cons hj, List.contains_cons, Qqg] at ho; have c1 : ((i : Int) < (m.length : Int)) = True := eq_true (by omega); have c2 : (0 ≤ (i : Int)) = True := eq_true (by omega); have c3 : ((j : Int) < (ps.length : Int)) = True := eq_true (by omega); have c4 : (0 ≤ (j : Int)) = True := eq_true (by omega)
  cases ov with
  | true =>
   refine Evk.step (Qjl m i hi dg g1 g2 g3 g4 g5 g6 hi2 s ps hps hl hn n (j + 1) true (by omega) (by rw [Bool.true_or] at ho ⊢; exact ho)) (fun k => ?_); simp only [Fn.l1, c1, c2, if_true, Qbf m i hi, hps, c3, ws j (show j ≤ 4611686018427387000 by omega)]
  | false =>
   have e : ((ps[j]).toList == dg.toList) = decide (dg.toList = (ps[j]).toList) := by
    rw [Bool.eq_iff_iff, beq_iff_eq, decide_eq_true_iff]; exact eq_comm
   refine Evk.step (Qjl m i hi dg g1 g2 g3 g4 g5 g6 hi2 s ps hps hl hn n (j + 1) (decide (dg.toList = (ps[j]).toList)) (by omega) (by rw [Bool.false_or] at ho; exact ho)) (fun k => ?_); have c0 : (false = true) = False := by simp
   simp only [Fn.l1, c1, c2, if_true, Qbf m i hi, hps, c3, c4, c0, if_false, Qi5 ps j hj, e, ws j (show j ≤ 4611686018427387000 by omega)]
theorem Qmu (m : List SE) (hm : m.length ≤ 60) (hp : ∀ x ∈ m, x.f1.f3.length ≤ 1099511627776) (dg : ByteArray) (g1 g2 : Int) (g3 : List Qaz) (g4 : List ByteArray) (g5 g6 : Int) : ∀ (n i : Nat) (s : Int), i + n = m.length → 0 ≤ s → s ≤ i → Evk (fun k => Fn.l0 k m s (i : Int) dg g1 g2 g3 g4 g5 g6) (s + (Qp1 (m.drop i) dg : Int))
 | 0, i, s, h, h0, h1 => by
  rw [List.drop_eq_nil_of_le (by omega)]; refine Evk.step (Evk.ret _) (fun k => ?_); rw [Fn.l0, if_neg (by omega)]; simp [Qp1]
 | n + 1, i, s, h, h0, h1 => by
  have hi : i < m.length := by omega
  rw [List.drop_eq_getElem_cons hi, Qig]; refine Evk.step (Qjl m i hi dg g1 g2 g3 g4 g5 g6 (by omega) s _ rfl (hp _ (List.getElem_mem hi)) (v := _) ?_ (m[i]).f1.f3.length 0 false (Nat.zero_add _) (by rw [List.drop_zero, Bool.false_or])) (fun k => by rw [Fn.l0, if_pos (by omega)]; rfl)
  by_cases hb : (m[i]).f1.f3.contains dg = true
  ·
   have ih := Qmu m hm hp dg g1 g2 g3 g4 g5 g6 n (i + 1) (s + 1) (by omega) (by omega) (by omega); rw [if_pos hb, if_pos hb, w64 (s + 1) (by omega) (by omega), ← Int.add_assoc]; exact ih
  ·
   have ih := Qmu m hm hp dg g1 g2 g3 g4 g5 g6 n (i + 1) s (by omega) (by omega) (by omega); rw [if_neg hb, if_neg hb, Int.zero_add]; exact ih
theorem Qm6 {l : List SE} (hf : Qa4 l) (a b : Int) (dg : ByteArray) (au ro : Int) (g3 : List Qaz) (g4 : List ByteArray) (g5 g6 : Int) : Evk (fun k => Fn.f k a b l dg au ro g3 g4 g5 g6) (Qk8 l dg ro : Int) := by
 have hl := hf.few; have hr := Qb4 l (wrap64 (ro + 1)); refine Evk.of_eq (Evk.bind (Qma l a b (wrap64 (ro + 1)) (by omega)) ?_) (fun k => by unfold Fn.f; rfl); have h := Qmu (Qa8 l (wrap64 (ro + 1))) (by omega) (fun x hx => hf.ps x (List.mem_filter.1 hx).1) dg au ro g3 g4 g5 g6 _ 0 0 (Nat.zero_add _) (by omega) (by omega); rw [List.drop_zero, Int.zero_add] at h; exact h
abbrev RE := ByteArray × Int × Int × List Qaz × List ByteArray × Int × Int × Int
abbrev err (r : RE) : Int := r.2.2.2.2.2.2.2
def Qij (r : RE) : SE := ⟨r.1, ⟨r.2.1, r.2.2.1, r.2.2.2.1, r.2.2.2.2.1, ⟨r.2.2.2.2.2.1, r.2.2.2.2.2.2.1⟩⟩⟩
def Ql2 (e : Int) : RE := ((⟨#[]⟩ : ByteArray), 0, 0, [], [], 0, 0, e)
def resR (x : SE) : RE := (x.f0, x.f1.f0, x.f1.f1, x.f1.f2, x.f1.f3, x.f1.f4.f0, x.f1.f4.f1, 0)
def byC (l : List SE) (who r : Int) : Option SE := l.find? (fun x => x.f1.f0 == who && x.f1.f1 == r)
def Qfx (l : List SE) (w : Int) (v : Int × Int) : RE := if v.2 = 0 then (match byC l v.1 (wrap64 (wrap64 (3 * w) - 2)) with
 | some x => resR x
 | none => Ql2 7) else Ql2 v.2
def Qa5 (a : Int) (l : List SE) (w : Int) : RE := Qfx l w (Qkx a l w)
def byT (l : List SE) (who r : Int) : ByteArray × Int × Int × List Qaz × List ByteArray × Int × Int × Bool := match byC l who r with
 | some x => (x.f0, x.f1.f0, x.f1.f1, x.f1.f2, x.f1.f3, x.f1.f4.f0, x.f1.f4.f1, true)
 | none => ((⟨#[]⟩ : ByteArray), 0, 0, [], [], 0, 0, false)
theorem c_by (a b : Int) (l : List SE) (who r : Int) : Gr.f a b l who r = some (byT l who r) := by
 unfold Gr.f byT byC; cases l.find? (fun x => x.f1.f0 == who && x.f1.f1 == r) <;> rfl
theorem Qp5 {l : List SE} (hl : l.length ≤ 60) (a b who r : Int) : ∀ (n i : Nat), i + n = l.length → Evk (fun k => Fd.l0 k who r (i : Int) a b l) (byT (l.drop i) who r)
 | 0, i, h => by
  rw [List.drop_eq_nil_of_le (by omega)]; exact Evk.step (Evk.ret _) (fun k => by rw [Fd.l0, if_neg (by omega)]; rfl)
 | n + 1, i, h => by
  have hi : i < l.length := by omega
  have ih := Qp5 hl a b who r n (i + 1) (by omega); rw [List.drop_eq_getElem_cons hi]; unfold byT byC; rw [List.find?_cons]
  by_cases h1 : (l[i]).f1.f0 = who
  ·
   by_cases h2 : (l[i]).f1.f1 = r
   ·
    have e : ((l[i]).f1.f0 == who && (l[i]).f1.f1 == r) = true := by rw [h1, h2, beq_self_eq_true, beq_self_eq_true]; rfl
    rw [e]; exact Evk.step (Evk.ret _) (fun k => by rw [Fd.l0, if_pos (by omega), if_pos (by omega), Qbf l i hi, if_pos h1, if_pos h2])
   ·
    have e : ((l[i]).f1.f0 == who && (l[i]).f1.f1 == r) = false := by rw [beq_eq_false_iff_ne.2 h2, Bool.and_false]
    rw [e]; exact Evk.step ih (fun k => by rw [Fd.l0, if_pos (by omega), if_pos (by omega), Qbf l i hi, if_pos h1, if_neg h2, ws i (by omega)])
  ·
   have e : ((l[i]).f1.f0 == who && (l[i]).f1.f1 == r) = false := by rw [beq_eq_false_iff_ne.2 h1, Bool.false_and]
   rw [e]; exact Evk.step ih (fun k => by rw [Fd.l0, if_pos (by omega), if_pos (by omega), Qbf l i hi, if_neg h1, ws i (by omega)])
theorem r_by {l : List SE} (hl : l.length ≤ 60) (a b who r : Int) : Evk (fun k => Fd.f k a b l who r) (byT l who r) := by
 have h := Qp5 hl a b who r l.length 0 (by omega); rw [List.drop_zero] at h; exact Evk.of_eq h (fun k => by unfold Fd.f; rfl)
theorem Qfd {l : List SE} (hf : Qa4 l) (a b w : Int) : Evk (fun k => Gf.f k a b l w) (Qa5 a l w) := by
 have hl := hf.few; have hrev := c_rev l a b w (by omega); unfold Qa5 Qfx
 by_cases he : (Qkx a l w).2 = 0
 ·
  unfold Gf.f; refine Evk.bind hrev (Evk.of_eq ?_ (fun k => if_pos he)); refine Evk.const (fun k => ?_); rw [c_by, Option.bind_some, if_pos he]; unfold byT; cases byC l (Qkx a l w).1 (wrap64 (wrap64 (3 * w) - 2)) <;> rfl
 ·
  unfold Gf.f; refine Evk.bind hrev (Evk.of_eq ?_ (fun k => if_neg he)); rw [if_neg he]; exact Evk.ret _
theorem Qek {l : List SE} (hf : Qa4 l) (a b w : Int) : Evk (fun k => Gg.f k a b l w) (Qa5 a l w) := by
 have hl := hf.few; have hrev := r_rev l a b w (by omega); unfold Qa5 Qfx
 by_cases he : (Qkx a l w).2 = 0
 ·
  unfold Gg.f; refine Evk.bind hrev (Evk.of_eq ?_ (fun k => if_pos he)); refine Evk.bind (r_by hl a b _ _) ?_; rw [if_pos he]; unfold byT; cases byC l (Qkx a l w).1 (wrap64 (wrap64 (3 * w) - 2)) <;> exact Evk.ret _
 ·
  unfold Gg.f; refine Evk.bind hrev (Evk.of_eq ?_ (fun k => if_neg he)); rw [if_neg he]; exact Evk.ret _
def okR (r : RE) : RE := (r.1, r.2.1, r.2.2.1, r.2.2.2.1, r.2.2.2.2.1, r.2.2.2.2.2.1, r.2.2.2.2.2.2.1, 0)
def decV (a : Int) (l : List SE) (r : RE) : RE := if err r = 0 then (if (Qk8 l r.1 r.2.2.1 : Int) < (Qcm a : Int) then Ql2 12 else okR r) else Ql2 (err r)
def Qf8 (a : Int) (l : List SE) (w : Int) : RE := decV a l (Qa5 a l w)
theorem dec_c {l : List SE} (hf : Qa4 l) (a b w : Int) : Evk (fun k => Fz.f k a b l w) (Qf8 a l w) := by
 have h1 := Qfd hf a b w; unfold Qf8; generalize Qa5 a l w = r at h1; unfold decV Fz.f; refine Evk.bind h1 ?_
 by_cases he : err r = 0
 ·
  refine Evk.of_eq ?_ (fun k => if_pos he); refine Evk.bind (Qk4 hf a b _ _ _ _ _ _ _) ?_; rw [if_pos he]; refine Evk.const (fun k => ?_); rw [Qmz, Option.bind_some]
  by_cases hs : (Qk8 l r.1 r.2.2.1 : Int) < (Qcm a : Int)
  ·
   rw [if_pos hs, if_pos hs]; rfl
  ·
   rw [if_neg hs, if_neg hs]; rfl
 ·
  rw [if_neg he]; exact Evk.of_eq (Evk.ret _) (fun k => if_neg he)
theorem rdec_c {l : List SE} (hf : Qa4 l) (a b w : Int) : Evk (fun k => Gs.f k a b l w) (Qf8 a l w) := by
 have h1 := Qek hf a b w; unfold Qf8; generalize Qa5 a l w = r at h1; unfold decV Gs.f; refine Evk.bind h1 ?_
 by_cases he : err r = 0
 ·
  refine Evk.of_eq ?_ (fun k => if_pos he); refine Evk.bind (Qm6 hf a b _ _ _ _ _ _ _) ?_; rw [if_pos he]; refine Evk.const (fun k => ?_); rw [Qi8, Option.bind_some]
  by_cases hs : (Qk8 l r.1 r.2.2.1 : Int) < (Qcm a : Int)
  ·
   rw [if_pos hs, if_pos hs]; rfl
  ·
   rw [if_neg hs, if_neg hs]; rfl
 ·
  rw [if_neg he]; exact Evk.of_eq (Evk.ret _) (fun k => if_neg he)
theorem cnt_lt (l : List SE) (r : Int) (x : SE) (hx : x ∈ l) (hr : x.f1.f1 = r) : (l.filter (fun y => decide (y.f1.f1 ≤ r - 1))).length + 1 ≤ (l.filter (fun y => decide (y.f1.f1 ≤ r))).length := by
 induction l with
 | nil => cases hx
 | cons a t ih =>
  rw [List.filter_cons, List.filter_cons]
  rcases List.mem_cons.1 hx with rfl | hx
  ·
   rw [if_neg (by simp; omega), if_pos (by simp; omega), List.length_cons]
   have : ∀ t : List SE, (t.filter (fun y => decide (y.f1.f1 ≤ r - 1))).length ≤ (t.filter (fun y => decide (y.f1.f1 ≤ r))).length := fun t => by
    induction t with
    | nil => exact Nat.le_refl _
    | cons b u ihu =>
     rw [List.filter_cons, List.filter_cons]
     by_cases h1 : b.f1.f1 ≤ r - 1
     ·
      rw [if_pos (by simpa using h1), if_pos (by simp; omega)]; simp; exact ihu
     ·
      rw [if_neg (by simpa using h1)]; split
      ·
       simp only [List.length_cons]; omega
      ·
       exact ihu
   have := this t; omega
  ·
   have := ih hx
   by_cases h1 : a.f1.f1 ≤ r - 1
   ·
    rw [if_pos (by simpa using h1), if_pos (by simp; omega)]; simp only [List.length_cons]; omega
   ·
    rw [if_neg (by simpa using h1)]; split
    ·
     simp only [List.length_cons]; omega
    ·
     exact this
theorem Qnh {l : List SE} (hf : Qa4 l) : ∀ (m : Nat) (r : Int), (l.filter (fun y => decide (y.f1.f1 ≤ r))).length + 2 ≤ m → -9223372036854775808 ≤ r → r ≤ 60 → ∃ q, Si.downO (Si.roundX (l.map Qb3)) m r = some q
 | 0, r, h, _, _ => by omega
 | m + 1, r, h, h1, h2 => by
  by_cases hz : (Si.roundX (l.map Qb3) r).length = 0
  ·
   exact ⟨[], by rw [Si.downO, if_pos hz]⟩
  ·
   rw [Qbg, List.length_map] at hz; obtain ⟨x, hx⟩ := List.exists_mem_of_length_pos (Nat.pos_of_ne_zero hz); have hm := List.mem_filter.1 hx; have e : x.f1.f1 = r := by simpa using hm.2
   have hc := cnt_lt l r x hm.1 e; have hz' : ¬ (Si.roundX (l.map Qb3) r).length = 0 := by rw [Qbg, List.length_map]; exact hz
   by_cases hr : -9223372036854775808 < r
   ·
    obtain ⟨q, hq⟩ := Qnh hf m (r - 1) (by omega) (by omega) (by omega); exact ⟨r :: q, by rw [Si.downO, if_neg hz', Go.IntWalk.wrap64_in (r - 1) (by omega), hq]; rfl⟩
   ·
    have e2 : r = -9223372036854775808 := by omega
    subst e2; have e3 : wrap64 (-9223372036854775808 - 1) = 9223372036854775807 := by decide +kernel
    obtain ⟨m', rfl⟩ : ∃ m', m = m' + 1 := ⟨m - 1, by omega⟩
    have he : (Si.roundX (l.map Qb3) 9223372036854775807).length = 0 := by
     rw [Qbg, List.length_map, List.length_eq_zero_iff, List.filter_eq_nil_iff]; intro y hy; have := hf.ro y hy; simp; omega
    exact ⟨[-9223372036854775808], by rw [Si.downO, if_neg hz', e3, Si.downO, if_pos he]; rfl⟩
def Qh5 (l : List SE) (r : Int) : List Int := (Si.downO (Si.roundX (l.map Qb3)) 70 r).getD []
def Qlh (l : List SE) (t : SE) : List (ByteArray × Int) := (Si.pastS t.f0 t.f1.f1 (Si.roundX (l.map Qb3)) (Qh5 l t.f1.f1)).1
def Qlr (x y : SE) : Prop := y.f1.f1 = x.f1.f1 - 1 ∧ ∃ p ∈ x.f1.f3, p.toList = y.f0.toList
theorem Qj5 : ∀ (inn : List (ByteArray × Int)) (d : ByteArray) (v : Int), Si.look inn d = some v → (d, v) ∈ inn
 | [], _, _, h => by simp [Si.look] at h
 | (k, u) :: r, d, v, h => by
  rw [Si.look] at h; split at h
  ·
   rename_i e; subst e; obtain rfl := Option.some.inj h; simp
  ·
   exact List.mem_cons_of_mem _ (Qj5 r d v h)
theorem Qhz : ∀ (inn : List (ByteArray × Int)) (d : ByteArray) (v : Int), (d, v) ∈ inn → ∃ u, Si.look inn d = some u
 | (k, u) :: r, d, v, h => by
  rw [Si.look]; split
  ·
   exact ⟨u, rfl⟩
  ·
   rename_i e
   rcases List.mem_cons.1 h with h | h
   ·
    exact absurd (congrArg Prod.fst h).symm e
   ·
    exact Qhz r d v h
theorem Qdt (tD : ByteArray) (tR r : Int) : ∀ (xs : List Si.DX) (inn : List (ByteArray × Int)) (want next : List ByteArray), xs.Pairwise (fun x y => x.d ≠ y.d) →
  (∀ e, e ∈ (xs.foldl (Si.stepE tD tR r) (inn, want, next)).1 ↔ e ∈ inn ∨ ∃ x ∈ xs, x.d ∈ want ∧ (r = tR → x.d = tD) ∧ e = (x.d, r)) ∧
  (∀ p, p ∈ (xs.foldl (Si.stepE tD tR r) (inn, want, next)).2.2 ↔ p ∈ next ∨ ∃ x ∈ xs, x.d ∈ want ∧ (r = tR → x.d = tD) ∧ p ∈ x.ps)
 | [], inn, want, next, _ => ⟨fun e => by simp, fun p => by simp⟩
 | x :: xs, inn, want, next, h => by
  obtain ⟨h1, h2⟩ := List.pairwise_cons.1 h; rw [List.foldl_cons]
  by_cases hc : x.d ∈ want ∧ (r = tR → x.d = tD)
  ·
   rw [Si.step_yes hc]; obtain ⟨i1, i2⟩ := Qdt tD tR r xs ((x.d, r) :: inn) (want.filter (fun y => decide (y ≠ x.d))) (x.ps.reverse ++ next) h2
   have hw : ∀ y ∈ xs, y.d ∈ want.filter (fun z => decide (z ≠ x.d)) ↔ y.d ∈ want := fun y hy => by
    rw [List.mem_filter]; exact ⟨fun g => g.1, fun g => ⟨g, decide_eq_true (fun e => h1 y hy e.symm)⟩⟩
   refine ⟨fun e => (i1 e).trans ?_, fun p => (i2 p).trans ?_⟩
   ·
    constructor
    ·
     rintro (g | ⟨y, hy, g1, g2, g3⟩)
     ·
      rcases List.mem_cons.1 g with g | g
      ·
       exact .inr ⟨x, by simp, hc.1, hc.2, g⟩
      ·
       exact .inl g
     ·
      exact .inr ⟨y, List.mem_cons_of_mem _ hy, (hw y hy).1 g1, g2, g3⟩
    ·
     rintro (g | ⟨y, hy, g1, g2, g3⟩)
     ·
      exact .inl (List.mem_cons_of_mem _ g)
     ·
      rcases List.mem_cons.1 hy with e' | hy
      ·
       exact .inl (by rw [g3, e']; simp)
      ·
       exact .inr ⟨y, hy, (hw y hy).2 g1, g2, g3⟩
   ·
    constructor
    ·
     rintro (g | ⟨y, hy, g1, g2, g3⟩)
     ·
      rcases List.mem_append.1 g with g | g
      ·
       exact .inr ⟨x, by simp, hc.1, hc.2, List.mem_reverse.1 g⟩
      ·
       exact .inl g
     ·
      exact .inr ⟨y, List.mem_cons_of_mem _ hy, (hw y hy).1 g1, g2, g3⟩
    ·
     rintro (g | ⟨y, hy, g1, g2, g3⟩)
     ·
      exact .inl (List.mem_append_right _ g)
     ·
      rcases List.mem_cons.1 hy with e' | hy
      ·
       exact .inl (List.mem_append_left _ (List.mem_reverse.2 (e' ▸ g3)))
      ·
       exact .inr ⟨y, hy, (hw y hy).2 g1, g2, g3⟩
  ·
   rw [Si.step_no hc]; obtain ⟨i1, i2⟩ := Qdt tD tR r xs inn want next h2; refine ⟨fun e => (i1 e).trans ?_, fun p => (i2 p).trans ?_⟩
   ·
    constructor
    ·
     rintro (g | ⟨y, hy, g1, g2, g3⟩)
     ·
      exact .inl g
     ·
      exact .inr ⟨y, List.mem_cons_of_mem _ hy, g1, g2, g3⟩
    ·
     rintro (g | ⟨y, hy, g1, g2, g3⟩)
     ·
      exact .inl g
     ·
      rcases List.mem_cons.1 hy with e' | hy
      ·
       exact absurd ⟨e' ▸ g1, e' ▸ g2⟩ hc
      ·
       exact .inr ⟨y, hy, g1, g2, g3⟩
   ·
    constructor
    ·
     rintro (g | ⟨y, hy, g1, g2, g3⟩)
     ·
      exact .inl g
     ·
      exact .inr ⟨y, List.mem_cons_of_mem _ hy, g1, g2, g3⟩
    ·
     rintro (g | ⟨y, hy, g1, g2, g3⟩)
     ·
      exact .inl g
     ·
      rcases List.mem_cons.1 hy with e' | hy
      ·
       exact absurd ⟨e' ▸ g1, e' ▸ g2⟩ hc
      ·
       exact .inr ⟨y, hy, g1, g2, g3⟩
theorem Qi6 (l : List SE) (hd : l.Pairwise (fun x y => x.f0.toList ≠ y.f0.toList)) (r : Int) : (Si.roundX (l.map Qb3) r).Pairwise (fun x y => x.d ≠ y.d) := by
 rw [Qbg, List.pairwise_map]; exact (hd.filter _).imp (fun h e => h (congrArg ByteArray.toList e))
theorem Qcb (l : List SE) (r : Int) (x : Si.DX) : x ∈ Si.roundX (l.map Qb3) r ↔ ∃ y ∈ l, y.f1.f1 = r ∧ x = Qb3 y := by
 rw [Qbg, List.mem_map]; constructor
 ·
  rintro ⟨y, hy, rfl⟩; have := List.mem_filter.1 hy; exact ⟨y, this.1, by simpa using this.2, rfl⟩
 ·
  rintro ⟨y, hy, hr, rfl⟩; exact ⟨y, List.mem_filter.2 ⟨hy, by simpa using hr⟩, rfl⟩
theorem Qe7 (l : List SE) (hb : ∀ x ∈ l, -9223372036854775808 ≤ x.f1.f1 ∧ x.f1.f1 ≤ 60) (hd : l.Pairwise (fun x y => x.f0.toList ≠ y.f0.toList)) (tD : ByteArray) (tR : Int) (P : SE → Prop) (hP : ∀ x ∈ l, ∀ y ∈ l, P x → Qlr x y → P y) :
  ∀ (m : Nat) (r : Int) (q : List Int) (inn : List (ByteArray × Int)) (want : List ByteArray), -9223372036854775808 ≤ r → r ≤ 60 → r ≤ tR → Si.downO (Si.roundX (l.map Qb3)) m r = some q →
  (r = tR → ∀ x ∈ l, x.f1.f1 = r → x.f0 ∈ want → x.f0 = tD → P x) → (r < tR → ∀ x ∈ l, x.f1.f1 = r → x.f0 ∈ want → P x) →
  (∀ e ∈ (q.foldl (Si.roundE tD tR (Si.roundX (l.map Qb3))) (inn, want)).1, e ∈ inn ∨ ∃ x ∈ l, e = (x.f0, x.f1.f1) ∧ P x ∧ x.f1.f1 ≤ r) ∧
  (∀ e ∈ inn, e ∈ (q.foldl (Si.roundE tD tR (Si.roundX (l.map Qb3))) (inn, want)).1) ∧
  (∀ x ∈ l, x.f1.f1 = r → x.f0 ∈ want → (r = tR → x.f0 = tD) → (x.f0, x.f1.f1) ∈ (q.foldl (Si.roundE tD tR (Si.roundX (l.map Qb3))) (inn, want)).1) ∧
  (∀ x ∈ l, x.f1.f1 ≤ r → (x.f0, x.f1.f1) ∈ (q.foldl (Si.roundE tD tR (Si.roundX (l.map Qb3))) (inn, want)).1 → (x.f0, x.f1.f1) ∉ inn → ∀ y ∈ l, Qlr x y → (y.f0, y.f1.f1) ∈ (q.foldl (Si.roundE tD tR (Si.roundX (l.map Qb3))) (inn, want)).1)
 | 0, r, q, inn, want, _, _, _, h, _, _ => by simp [Si.downO] at h
 | m + 1, r, q, inn, want, hr0, hr1, hrt, h, w1, w2 => by
  rw [Si.downO] at h; split at h
  ·
   rename_i hz
   obtain rfl := Option.some.inj h
   have hno : ∀ x ∈ l, x.f1.f1 ≠ r := fun x hx e => by
    have := (Qcb l r (Qb3 x)).2 ⟨x, hx, e, rfl⟩; rw [List.eq_nil_of_length_eq_zero hz] at this; simp at this
   exact ⟨fun e he => .inl he, fun e he => he, fun x hx e => absurd e (hno x hx), fun x hx _ hi hn => absurd hi hn⟩
  ·
   rename_i hz
   obtain ⟨q', hq', rfl⟩ := Option.map_eq_some_iff.1 h; rw [List.foldl_cons]; obtain ⟨s1, s2⟩ := Qdt tD tR r (Si.roundX (l.map Qb3) r) inn want [] (Qi6 l hd r); unfold Si.roundE; dsimp only; generalize hA : ((Si.roundX (l.map Qb3) r).foldl (Si.stepE tD tR r) (inn, want, [])) = A at s1 s2 ⊢
   have hPr : ∀ x ∈ l, x.f1.f1 = r → x.f0 ∈ want → (r = tR → x.f0 = tD) → P x := fun x hx e hw ht => by
    by_cases hrt' : r = tR
    ·
     exact w1 hrt' x hx e hw (ht hrt')
    ·
     exact w2 (by omega) x hx e hw
   obtain ⟨i1, i2, i3, i4⟩ : (∀ e ∈ (q'.foldl (Si.roundE tD tR (Si.roundX (l.map Qb3))) (A.1, A.2.2)).1, e ∈ A.1 ∨ ∃ x ∈ l, e = (x.f0, x.f1.f1) ∧ P x ∧ x.f1.f1 ≤ r - 1) ∧ (∀ e ∈ A.1, e ∈ (q'.foldl (Si.roundE tD tR (Si.roundX (l.map Qb3))) (A.1, A.2.2)).1) ∧ (∀ x ∈ l, x.f1.f1 = r - 1 → x.f0 ∈ A.2.2 → (r - 1 = tR → x.f0 = tD) → (x.f0, x.f1.f1) ∈ (q'.foldl (Si.roundE tD tR (Si.roundX (l.map Qb3))) (A.1, A.2.2)).1) ∧ (∀ x ∈ l, x.f1.f1 ≤ r - 1 → (x.f0, x.f1.f1) ∈ (q'.foldl (Si.roundE tD tR (Si.roundX (l.map Qb3))) (A.1, A.2.2)).1 → (x.f0, x.f1.f1) ∉ A.1 → ∀ y ∈ l, Qlr x y → (y.f0, y.f1.f1) ∈ (q'.foldl (Si.roundE tD tR (Si.roundX (l.map Qb3))) (A.1, A.2.2)).1) := by
    by_cases hr : r = -9223372036854775808
    ·
     have hq0 : q' = [] := by
      subst hr; rw [show wrap64 (-9223372036854775808 - 1) = 9223372036854775807 by decide +kernel] at hq'
      cases m with
      | zero => simp [Si.downO] at hq'
      | succ m =>
       have he : (Si.roundX (l.map Qb3) 9223372036854775807).length = 0 := by
        rw [Qbg, List.length_map, List.length_eq_zero_iff, List.filter_eq_nil_iff]; intro y hy; have := (hb y hy).2; simp; omega
       rw [Si.downO, if_pos he] at hq'; exact (Option.some.inj hq').symm
     subst hq0; exact ⟨fun e he => .inl he, fun e he => he, fun x hx e => by have := (hb x hx).1; omega, fun x hx e => by have := (hb x hx).1; omega⟩
    ·
     exact Qe7 l hb hd tD tR P hP m (r - 1) q' A.1 A.2.2 (by omega) (by omega) (by omega) (by rw [wrap64_in (r - 1) (by omega)] at hq'; exact hq')
      (fun e => by omega)
      (fun _ x hx e hw => by
       rcases (s2 x.f0).1 hw with g | ⟨y, hy, g1, g2, g3⟩
       ·
        simp at g
       ·
        obtain ⟨z, hz', hzr, rfl⟩ := (Qcb l r y).1 hy
        exact hP z hz' x hx (hPr z hz' hzr g1 g2) ⟨by omega, x.f0, g3, rfl⟩)
   refine ⟨fun e he => ?_, fun e he => i2 e ((s1 e).2 (.inl he)), fun x hx e hw ht => i2 _ ((s1 _).2 (.inr ⟨Qb3 x, (Qcb l r _).2 ⟨x, hx, e, rfl⟩, hw, ht, by rw [e]; rfl⟩)), fun x hx hxr hin hnot y hy hxy => ?_⟩
   ·
    rcases i1 e he with g | ⟨x, hx, g1, g2, g3⟩
    ·
     rcases (s1 e).1 g with g | ⟨y, hy, g1, g2, g3⟩
     ·
      exact .inl g
     ·
      obtain ⟨z, hz', hzr, rfl⟩ := (Qcb l r y).1 hy; exact .inr ⟨z, hz', by rw [g3, hzr]; rfl, hPr z hz' hzr g1 g2, by omega⟩
    ·
     exact .inr ⟨x, hx, g1, g2, by omega⟩
   ·
    by_cases hx1 : (x.f0, x.f1.f1) ∈ A.1
    ·
     rcases (s1 _).1 hx1 with g | ⟨z, hz', g1, g2, g3⟩
     ·
      exact absurd g hnot
     ·
      have hxd : x.f0 = z.d := congrArg Prod.fst g3; have hxr' : x.f1.f1 = r := congrArg Prod.snd g3; obtain ⟨u, hu, hur, rfl⟩ := (Qcb l r z).1 hz'; obtain ⟨e1, p, hp, e2⟩ := hxy; have hwant : y.f0 ∈ A.2.2 := (s2 _).2 (.inr ⟨Qb3 x, (Qcb l r _).2 ⟨x, hx, hxr', rfl⟩, by show x.f0 ∈ want; rw [hxd]; exact g1, fun e => by show x.f0 = tD; rw [hxd]; exact g2 e, by rw [← Qfg e2]; exact hp⟩); exact i3 y hy (by omega) hwant (fun e => by omega)
    ·
     have hlt : x.f1.f1 ≤ r - 1 := by
      rcases i1 _ hin with g | ⟨z, hz', g1, g2, g3⟩
      ·
       exact absurd g hx1
      ·
       have : x.f1.f1 = z.f1.f1 := congrArg Prod.snd g1; omega
     exact i4 x hx hlt hin hx1 y hy hxy
theorem Qdc (l : List SE) (hf : Qa4 l) (hb : ∀ x ∈ l, -9223372036854775808 ≤ x.f1.f1 ∧ x.f1.f1 ≤ 60) (hd : l.Pairwise (fun x y => x.f0.toList ≠ y.f0.toList)) (t : SE) (ht : t ∈ l) (P : SE → Prop) (hP : ∀ x ∈ l, ∀ y ∈ l, P x → Qlr x y → P y) (hPt : P t) :
  (∀ e ∈ Qlh l t, ∃ x ∈ l, e = (x.f0, x.f1.f1) ∧ P x ∧ x.f1.f1 ≤ t.f1.f1) ∧ (t.f0, t.f1.f1) ∈ Qlh l t ∧ (∀ x ∈ l, (x.f0, x.f1.f1) ∈ Qlh l t → ∀ y ∈ l, Qlr x y → (y.f0, y.f1.f1) ∈ Qlh l t) := by
 have h0 := hb t ht; obtain ⟨q, hq⟩ := Qnh hf 70 t.f1.f1 (by have h1 := List.length_filter_le (fun y : SE => decide (y.f1.f1 ≤ t.f1.f1)) l; have h2 := hf.few; omega) (by omega) (by omega); have e : Qh5 l t.f1.f1 = q := by unfold Qh5; rw [hq]; rfl
 have hinj : ∀ x ∈ l, x.f0 = t.f0 → x = t := fun x hx e => by
  by_cases hne : x = t
  ·
   exact hne
  ·
   exfalso
   obtain ⟨i, hi, rfl⟩ := List.mem_iff_getElem.1 hx; obtain ⟨j, hj, rfl⟩ := List.mem_iff_getElem.1 ht; have hp := List.pairwise_iff_getElem.1 hd
   rcases Nat.lt_trichotomy i j with h | h | h
   ·
    exact hp i j hi hj h (congrArg ByteArray.toList e)
   ·
    subst h; exact hne rfl
   ·
    exact hp j i hj hi h (congrArg ByteArray.toList e.symm)
 obtain ⟨i1, i2, i3, i4⟩ := Qe7 l hb hd t.f0 t.f1.f1 P hP 70 t.f1.f1 q [] [t.f0] (by omega) (by omega) (by omega) hq (fun _ x hx _ _ e => by rw [hinj x hx e]; exact hPt) (fun h => by omega); unfold Qlh Si.pastS; rw [e]; refine ⟨fun e he => ?_, i3 t ht rfl (by simp) (fun _ => rfl), fun x hx hi y hy hxy => ?_⟩
 ·
  rcases i1 e he with g | g
  ·
   simp at g
  ·
   exact g
 ·
  rcases i1 _ hi with g | ⟨z, hz, g1, g2, g3⟩
  ·
   simp at g
  ·
   have : x.f1.f1 = z.f1.f1 := congrArg Prod.snd g1; exact i4 x hx (by omega) hi (by simp) y hy hxy
theorem rw1 {x y : Int} (hx : -9223372036854775808 ≤ x ∧ x ≤ 60) (hy : -9223372036854775808 ≤ y ∧ y ≤ 60) : y = wrap64 (x - 1) ↔ y = x - 1 := by
 by_cases h : x = -9223372036854775808
 ·
  subst h; rw [show wrap64 (-9223372036854775808 - 1) = 9223372036854775807 by decide +kernel]; omega
 ·
  rw [wrap64_in (x - 1) (by omega)]
def bAt (r : List Bool) (i : Nat) : Bool := Qby false r (i : Int)
theorem bAt_get (r : List Bool) (i : Nat) (h : i < r.length) : bAt r i = r[i] := by
 unfold bAt Qby
 rw [Int.toNat_natCast, List.getD_eq_getElem?_getD, List.getElem?_eq_getElem h]; rfl
theorem Qgl (r : List Bool) (k i : Nat) (hk : k < r.length) : bAt (r.set k true) i = if k = i then true else bAt r i := by
 unfold bAt Qby
 rw [Int.toNat_natCast, List.getD_eq_getElem?_getD, List.getD_eq_getElem?_getD, List.getElem?_set]
 by_cases h : k = i
 ·
  rw [if_pos h, if_pos h, if_pos hk]; rfl
 ·
  rw [if_neg h, if_neg h]
theorem Qou (r : List Bool) (k : Nat) (hk : k < r.length) (h : bAt r k = false) : (r.set k true).count false < r.count false := by
 rw [bAt_get r k hk] at h; rw [List.count_set hk, h]; have : 0 < r.count false := List.count_pos_iff.2 (by rw [← h]; exact List.getElem_mem hk); simp; omega
structure Good (l : List SE) (f : Nat) (P : SE → Prop) (r : List Bool) : Prop where
 len : r.length = l.length
 snd : ∀ (j : Nat) (hj : j < l.length), bAt r j = true → P (l[j])
 fst : bAt r f = true
structure Inv (l : List SE) (f : Nat) (P : SE → Prop) (r0 r : List Bool) (more : Bool) (i k : Nat) : Prop where
 good : Good l f P r
 cnt : r.count false ≤ r0.count false
 mr : more = true → r.count false < r0.count false
 eq : more = false → r = r0
 ok : more = false → ∀ (i' k' : Nat) (hi : i' < l.length) (hk : k' < l.length), (i' < i ∨ i' = i ∧ k' < k) → bAt r0 i' = true → bAt r0 k' = false → ¬ Qlr (l[i']) (l[k'])
def Closed (l : List SE) (r : List Bool) : Prop := ∀ (i k : Nat) (hi : i < l.length) (hk : k < l.length), bAt r i = true → Qlr (l[i]) (l[k]) → bAt r k = true
theorem Qg8 (l : List SE) (hl : l.length ≤ 1048576) (a b : Int) (i k : Nat) (hi : i < l.length) (hk : k < l.length) (hps : (l[i]).f1.f3.length ≤ 1048576) (R : List Bool → Prop) : ∀ (n p : Nat) (r : List Bool) (more : Bool), p + n = (l[i]).f1.f3.length → r.length = l.length →
  ((∀ q ∈ (l[i]).f1.f3.drop p, q.toList ≠ (l[k]).f0.toList) → ∃ o, Evk (fun kk => F0.l3 kk r more (i : Int) ((k + 1 : Nat) : Int) a b l) o ∧ R o) →
  ((∃ q ∈ (l[i]).f1.f3.drop p, q.toList = (l[k]).f0.toList) → ∃ o, Evk (fun kk => F0.l3 kk (r.set k true) true (i : Int) ((k + 1 : Nat) : Int) a b l) o ∧ R o) →
  ∃ o, Evk (fun kk => F0.l4 kk r more (i : Int) (k : Int) (p : Int) a b l) o ∧ R o
 | 0, p, r, more, h, hr, h1, h2 => by
  obtain ⟨o, g1, g2⟩ := h1 (by rw [List.drop_eq_nil_of_le (by omega)]; simp); refine ⟨o, Evk.step g1 (fun kk => ?_), g2⟩; have e := Qbf l i hi; rw [F0.l4, if_pos (by omega), if_pos (by omega), e, if_neg (by omega), ws k (by omega)]
 | n + 1, p, r, more, h, hr, h1, h2 => by
  have e := Qbf l i hi; have e' := Qbf l k hk; have hp : p < (l[i]).f1.f3.length := by omega
  have ep := Qi5 (l[i]).f1.f3 p hp; rw [List.drop_eq_getElem_cons hp] at h1 h2
  by_cases hq : ((l[i]).f1.f3[p]).toList = (l[k]).f0.toList
  ·
   have hset := h2 ⟨_, List.mem_cons_self, hq⟩; obtain ⟨o, g1, g2⟩ := Qg8 l hl a b i k hi hk hps R n (p + 1) (r.set k true) true (by omega) (by rw [List.length_set]; exact hr) (fun _ => hset) (fun _ => by rw [List.set_set]; exact hset); refine ⟨o, Evk.step g1 (fun kk => ?_), g2⟩; rw [F0.l4, if_pos (by omega), if_pos (by omega), e, if_pos (by omega), if_pos (by omega), if_pos (by omega), if_pos (by omega), ep, e', if_pos hq, if_pos (by omega), ws p (by omega), Int.toNat_natCast]
  ·
   obtain ⟨o, g1, g2⟩ := Qg8 l hl a b i k hi hk hps R n (p + 1) r more (by omega) hr
    (fun hno => h1 (fun q hq' => by rcases List.mem_cons.1 hq' with rfl | hq'; exact hq; exact hno q hq'))
    (fun ⟨q, hq1, hq2⟩ => h2 ⟨q, List.mem_cons_of_mem _ hq1, hq2⟩)
   refine ⟨o, Evk.step g1 (fun kk => ?_), g2⟩; rw [F0.l4, if_pos (by omega), if_pos (by omega), e, if_pos (by omega), if_pos (by omega), if_pos (by omega), if_pos (by omega), ep, e', if_neg hq, ws p (by omega)]
theorem Qjw (l : List SE) (hl : l.length ≤ 1048576) (hb : ∀ x ∈ l, -9223372036854775808 ≤ x.f1.f1 ∧ x.f1.f1 ≤ 60) (hps : ∀ x ∈ l, x.f1.f3.length ≤ 1048576) (a b : Int) (f : Nat) (P : SE → Prop) (hP : ∀ x ∈ l, ∀ y ∈ l, P x → Qlr x y → P y) (R : List Bool → Prop) (r0 : List Bool) (i : Nat) (hi : i < l.length)
  (hn : ∀ (r : List Bool) (more : Bool), Inv l f P r0 r more (i + 1) 0 → ∃ o, Evk (fun kk => F0.l2 kk r more ((i + 1 : Nat) : Int) a b l) o ∧ R o) :
  ∀ (n k : Nat) (r : List Bool) (more : Bool), k + n = l.length → Inv l f P r0 r more i k → ∃ o, Evk (fun kk => F0.l3 kk r more (i : Int) (k : Int) a b l) o ∧ R o
 | 0, k, r, more, h, hv => by
  obtain ⟨o, g1, g2⟩ := hn r more ⟨hv.good, hv.cnt, hv.mr, hv.eq, fun hm i' k' hi' hk' hik => hv.ok hm i' k' hi' hk' (by omega)⟩; refine ⟨o, ?_, g2⟩; have hj : Evk (fun kk => F0.j4 kk r more (i : Int) (k : Int) false a b l) o := Evk.step g1 (fun kk => by rw [F0.j4, if_neg (by decide), ws i (by omega)]); exact Evk.step hj (fun kk => by rw [F0.l3, if_neg (by omega)])
 | n + 1, k, r, more, h, hv => by
  have hk : k < l.length := by omega
  have hr := hv.good.len; have e := Qbf l i hi; have e' := Qbf l k hk; have bi := hb _ (List.getElem_mem hi)
  have ihn : ∀ (r' : List Bool) (more' : Bool), Inv l f P r0 r' more' i (k + 1) → ∃ o, Evk (fun kk => F0.l3 kk r' more' (i : Int) ((k + 1 : Nat) : Int) a b l) o ∧ R o := fun r' more' hv' => Qjw l hl hb hps a b f P hP R r0 i hi hn n (k + 1) r' more' (by omega) hv'
  have hkeep : (more = false → bAt r0 i = true → bAt r0 k = false → ¬ Qlr (l[i]) (l[k])) → Inv l f P r0 r more i (k + 1) := fun hno => ⟨hv.good, hv.cnt, hv.mr, hv.eq, fun hm i' k' hi' hk' hik => by
   by_cases hik' : i' = i ∧ k' = k
   ·
    obtain ⟨rfl, rfl⟩ := hik'; exact hno hm
   ·
    exact hv.ok hm i' k' hi' hk' (by omega)⟩
  cases hbi : bAt r i with
  | false =>
   obtain ⟨o, g1, g2⟩ := hn r more ⟨hv.good, hv.cnt, hv.mr, hv.eq, fun hm i' k' hi' hk' hik hb1 => by
    by_cases hii : i' = i
    ·
     subst hii; rw [← hv.eq hm, hbi] at hb1; cases hb1
    ·
     exact hv.ok hm i' k' hi' hk' (by omega) hb1⟩
   refine ⟨o, ?_, g2⟩; have hj : Evk (fun kk => F0.j4 kk r more (i : Int) (k : Int) false a b l) o := Evk.step g1 (fun kk => by rw [F0.j4, if_neg (by decide), ws i (by omega)]); exact Evk.step hj (fun kk => by rw [F0.l3, if_pos (by omega), if_pos (by omega), if_pos (by omega), show Qby false r (i : Int) = false from hbi])
  | true =>
   have hj5 : ∃ o, Evk (fun kk => F0.j4 kk r more (i : Int) (k : Int) true a b l) o ∧ R o := by
    cases hbk : bAt r k with
    | true =>
     obtain ⟨o, g1, g2⟩ := ihn r more (hkeep (fun hm _ hb2 => by rw [← hv.eq hm, hbk] at hb2; cases hb2)); refine ⟨o, ?_, g2⟩; have hj : Evk (fun kk => F0.j5 kk r more (i : Int) (k : Int) true a b l) o := Evk.step g1 (fun kk => by rw [F0.j5, if_pos rfl, ws k (by omega)]); exact Evk.step hj (fun kk => by rw [F0.j4, if_pos rfl, if_pos (by omega), if_pos (by omega), if_pos (show Qby false r (k : Int) = true from hbk)])
    | false =>
     have hgo : ∀ (z : Bool) (o : List Bool), Evk (fun kk => F0.j5 kk r more (i : Int) (k : Int) z a b l) o → ((l[k]).f1.f1 != wrap64 ((l[i]).f1.f1 - 1)) = z → Evk (fun kk => F0.j4 kk r more (i : Int) (k : Int) true a b l) o := fun z o hz hzz =>
      Evk.step hz (fun kk => by rw [F0.j4, if_pos rfl, if_pos (by omega), if_pos (by omega), if_neg (by rw [show Qby false r (k : Int) = false from hbk]; decide), if_pos (by omega), if_pos (by omega), if_pos (by omega), e, e', hzz])
     have ew := rw1 bi (hb _ (List.getElem_mem hk))
     by_cases hrd : (l[k]).f1.f1 = (l[i]).f1.f1 - 1
     ·
      obtain ⟨o, g1, g2⟩ := Qg8 l hl a b i k hi hk (hps _ (List.getElem_mem hi)) R (l[i]).f1.f3.length 0 r more (by omega) hr
       (fun hno => ihn r more (hkeep (fun _ _ _ hedge => by
        obtain ⟨_, p, hp, hp2⟩ := hedge
        exact hno p (by rw [List.drop_zero]; exact hp) hp2)))
       (fun ⟨q, hq1, hq2⟩ => by
        rw [List.drop_zero] at hq1; have hc := Qou r k (by omega) hbk; refine ihn (r.set k true) true ⟨⟨by rw [List.length_set]; exact hr, fun j hj hbj => ?_, ?_⟩, by have := hv.cnt; omega, fun _ => by have := hv.cnt; omega, fun hm => (by cases hm), fun hm => (by cases hm)⟩
        ·
         rw [Qgl r k j (by omega)] at hbj
         by_cases hkj : k = j
         ·
          subst hkj; exact hP _ (List.getElem_mem hi) _ (List.getElem_mem hk) (hv.good.snd i hi hbi) ⟨hrd, q, hq1, hq2⟩
         ·
          rw [if_neg hkj] at hbj; exact hv.good.snd j hj hbj
        ·
         rw [Qgl r k f (by omega), hv.good.fst]
         split <;> rfl)
      refine ⟨o, hgo false o ?_ (bne_eq_false_iff_eq.2 (ew.2 hrd)), g2⟩; exact Evk.step g1 (fun kk => by rw [F0.j5, if_neg (by decide)]; rfl)
     ·
      obtain ⟨o, g1, g2⟩ := ihn r more (hkeep (fun _ _ _ hedge => hrd hedge.1)); refine ⟨o, hgo true o ?_ (bne_iff_ne.2 (fun h => hrd (ew.1 h))), g2⟩; exact Evk.step g1 (fun kk => by rw [F0.j5, if_pos rfl, ws k (by omega)])
   obtain ⟨o, g1, g2⟩ := hj5; exact ⟨o, Evk.step g1 (fun kk => by rw [F0.l3, if_pos (by omega), if_pos (by omega), if_pos (by omega), show Qby false r (i : Int) = true from hbi]), g2⟩
theorem Qkf (l : List SE) (hl : l.length ≤ 1048576) (hb : ∀ x ∈ l, -9223372036854775808 ≤ x.f1.f1 ∧ x.f1.f1 ≤ 60) (hps : ∀ x ∈ l, x.f1.f3.length ≤ 1048576) (a b : Int) (f : Nat) (P : SE → Prop) (hP : ∀ x ∈ l, ∀ y ∈ l, P x → Qlr x y → P y) (R : List Bool → Prop) (r0 : List Bool)
  (hn : ∀ (r : List Bool) (more : Bool), Inv l f P r0 r more l.length 0 → ∃ o, Evk (fun kk => F0.l1 kk r more a b l) o ∧ R o) :
  ∀ (n i : Nat) (r : List Bool) (more : Bool), i + n = l.length → Inv l f P r0 r more i 0 → ∃ o, Evk (fun kk => F0.l2 kk r more (i : Int) a b l) o ∧ R o
 | 0, i, r, more, h, hv => by
  have hil : i = l.length := by omega
  subst hil; obtain ⟨o, g1, g2⟩ := hn r more hv; exact ⟨o, Evk.step g1 (fun kk => by rw [F0.l2, if_neg (by omega)]), g2⟩
 | n + 1, i, r, more, h, hv => by
  have hi : i < l.length := by omega
  obtain ⟨o, g1, g2⟩ := Qjw l hl hb hps a b f P hP R r0 i hi (fun r' more' hv' => Qkf l hl hb hps a b f P hP R r0 hn n (i + 1) r' more' (by omega) hv') l.length 0 r more (by omega) hv; exact ⟨o, Evk.step g1 (fun kk => by rw [F0.l2, if_pos (by omega)]; rfl), g2⟩
theorem Qkl (l : List SE) (hl : l.length ≤ 1048576) (hb : ∀ x ∈ l, -9223372036854775808 ≤ x.f1.f1 ∧ x.f1.f1 ≤ 60) (hps : ∀ x ∈ l, x.f1.f3.length ≤ 1048576) (a b : Int) (f : Nat) (P : SE → Prop) (hP : ∀ x ∈ l, ∀ y ∈ l, P x → Qlr x y → P y) :
  ∀ (n : Nat) (r : List Bool), r.count false < n → Good l f P r → ∃ o, Evk (fun kk => F0.l1 kk r true a b l) o ∧ (Good l f P o ∧ Closed l o)
 | 0, r, h, _ => by omega
 | n + 1, r, h, hg => by
  obtain ⟨o, g1, g2⟩ := Qkf l hl hb hps a b f P hP (fun o => Good l f P o ∧ Closed l o) r (fun r' more' hv => by
   cases hm : more' with
   | true =>
    have := hv.mr hm; exact Qkl l hl hb hps a b f P hP n r' (by omega) hv.good
   | false =>
    refine ⟨r', Evk.step (Evk.ret r') (fun kk => by rw [F0.l1, if_neg (by decide)]), hv.good, fun i k hi hk hbi hedge => ?_⟩
    cases hbk : bAt r' k with
    | true => rfl
    | false =>
     rw [hv.eq hm] at hbi hbk
     exact absurd hedge (hv.ok hm i k hi hk (.inl hi) hbi hbk)) l.length 0 r false (by omega) ⟨hg, Nat.le_refl _, fun h => (by cases h), fun _ => rfl, fun _ i' k' _ _ hik => by omega⟩
  exact ⟨o, Evk.step g1 (fun kk => by rw [F0.l1, if_pos rfl]; rfl), g2⟩
theorem Qlj (l : List SE) (hd : l.Pairwise (fun x y => x.f0.toList ≠ y.f0.toList)) : ∀ x ∈ l, ∀ y ∈ l, x.f0 = y.f0 → x = y := by
 intro x hx y hy e
 by_cases hne : x = y
 ·
  exact hne
 ·
  exfalso
  obtain ⟨i, hi, rfl⟩ := List.mem_iff_getElem.1 hx; obtain ⟨j, hj, rfl⟩ := List.mem_iff_getElem.1 hy; have hp := List.pairwise_iff_getElem.1 hd
  rcases Nat.lt_trichotomy i j with h | h | h
  ·
   exact hp i j hi hj h (congrArg ByteArray.toList e)
  ·
   subst h; exact hne rfl
  ·
   exact hp j i hj hi h (congrArg ByteArray.toList e.symm)
theorem Qgt (l : List SE) (hl : l.length ≤ 1048576) (a b : Int) (dg : ByteArray) (x5 : List Bool) (R : List Bool → Prop) : ∀ (n : Nat) (x6 : Int), n ≤ l.length →
  (∀ y6 : Int, (y6 = x6 ∧ ∀ (j : Nat) (hj : j < l.length), j < n → (l[j]).f0.toList ≠ dg.toList) ∨ (∃ (j : Nat) (hj : j < l.length), y6 = (j : Int) ∧ (l[j]).f0.toList = dg.toList ∧ ∀ (i : Nat) (hi : i < j), (l[i]'(by omega)).f0.toList ≠ dg.toList) → ∃ o, Evk (fun kk => F0.l0 kk dg x5 y6 (-1) a b l) o ∧ R o) →
  ∃ o, Evk (fun kk => F0.l0 kk dg x5 x6 ((n : Int) - 1) a b l) o ∧ R o
 | 0, x6, hn, h => h x6 (.inl ⟨rfl, fun j hj hj0 => by omega⟩)
 | n + 1, x6, hn, h => by
  have hi : n < l.length := by omega
  have e := Qbf l n hi; have ew := w64 ((n : Int) - 1) (by omega) (by omega); have ex : (((n + 1 : Nat) : Int) - 1) = (n : Int) := by omega
  rw [ex]
  by_cases hq : (l[n]).f0.toList = dg.toList
  ·
   obtain ⟨o, g1, g2⟩ := Qgt l hl a b dg x5 R n (n : Int) (by omega) (fun y6 hy => h y6 (.inr (by
    rcases hy with ⟨rfl, hno⟩ | hy
    ·
     exact ⟨n, hi, rfl, hq, fun i hi' => hno i (by omega) hi'⟩
    ·
     exact hy)))
   refine ⟨o, Evk.step g1 (fun kk => ?_), g2⟩; rw [F0.l0, if_pos (by omega), if_pos (by omega), if_pos (by omega), e, if_pos hq, ew]
  ·
   obtain ⟨o, g1, g2⟩ := Qgt l hl a b dg x5 R n x6 (by omega) (fun y6 hy => h y6 (by
    rcases hy with ⟨rfl, hno⟩ | hy
    ·
     refine .inl ⟨rfl, fun j hj hjn => ?_⟩
     by_cases hjn' : j = n
     ·
      subst hjn'; exact hq
     ·
      exact hno j hj (by omega)
    ·
     exact .inr hy))
   refine ⟨o, Evk.step g1 (fun kk => ?_), g2⟩; rw [F0.l0, if_pos (by omega), if_pos (by omega), if_pos (by omega), e, if_neg hq, ew]
theorem Qla (l : List SE) (dg : ByteArray) (j : Nat) (hj : j < l.length) (h1 : (l[j]).f0.toList = dg.toList) (h2 : ∀ (i : Nat) (hi : i < j), (l[i]'(by omega)).f0.toList ≠ dg.toList) : l.find? (fun x => x.f0.toList == dg.toList) = some (l[j]) := by
 rw [List.find?_eq_some_iff_getElem]; refine ⟨by simpa using h1, j, hj, rfl, fun i hi => ?_⟩; have := h2 i hi
 simpa using this
theorem Qnn (n i : Nat) : bAt (List.replicate n false) i = false := by
 unfold bAt Qby
 rw [Int.toNat_natCast, List.getD_eq_getElem?_getD, List.getElem?_replicate]; split <;> rfl
theorem Qpt (l : List SE) (hf13 : Qa4 l) (hl : l.length ≤ 1048576) (hb : ∀ x ∈ l, -9223372036854775808 ≤ x.f1.f1 ∧ x.f1.f1 ≤ 60) (hd : l.Pairwise (fun x y => x.f0.toList ≠ y.f0.toList)) (hps : ∀ x ∈ l, x.f1.f3.length ≤ 1048576) (a b : Int) (dg : ByteArray) :
  ∃ o, Evk (fun kk => F0.f kk a b l dg) o ∧ (o.length = l.length ∧ (l.find? (fun x => x.f0.toList == dg.toList) = none ∧ (∀ j, bAt o j = false) ∨ ∃ t, l.find? (fun x => x.f0.toList == dg.toList) = some t ∧ ∀ (j : Nat) (hj : j < l.length), bAt o j = decide (((l[j]).f0, (l[j]).f1.f1) ∈ Qlh l t))) := by
 have h0 := Qgt l hl a b dg (List.replicate l.length false) (fun o => o.length = l.length ∧ (l.find? (fun x => x.f0.toList == dg.toList) = none ∧ (∀ j, bAt o j = false) ∨ ∃ t, l.find? (fun x => x.f0.toList == dg.toList) = some t ∧ ∀ (j : Nat) (hj : j < l.length), bAt o j = decide (((l[j]).f0, (l[j]).f1.f1) ∈ Qlh l t))) l.length (-1) (Nat.le_refl _) ?_
 ·
  obtain ⟨o, g1, g2⟩ := h0; refine ⟨o, Evk.of_eq g1 (fun kk => ?_), g2⟩; rw [F0.f, if_pos (by omega), if_pos (by rw [Int.toNat_natCast]; omega), Int.toNat_natCast, w64 ((l.length : Int) - 1) (by omega) (by omega)]
 ·
  rintro y6 (⟨rfl, hno⟩ | ⟨j, hj, rfl, hm, hbf⟩)
  ·
   refine ⟨List.replicate l.length false, Evk.step (Evk.ret _) (fun kk => by rw [F0.l0, if_neg (by omega), if_pos (by omega)]), List.length_replicate, .inl ⟨?_, fun j => Qnn _ _⟩⟩
   have : l.find? (fun x => x.f0.toList == dg.toList) = none := List.find?_eq_none.2 (fun x hx => by
    obtain ⟨i, hi, rfl⟩ := List.mem_iff_getElem.1 hx
    simpa using hno i hi hi)
   exact this
  ·
   have hf := Qla l dg j hj hm hbf; have htm := List.getElem_mem hj; have hlen : (List.replicate l.length false).length = l.length := List.length_replicate
   have hP : ∀ x ∈ l, ∀ y ∈ l, (x.f0, x.f1.f1) ∈ Qlh l (l[j]) → Qlr x y → (y.f0, y.f1.f1) ∈ Qlh l (l[j]) := fun x hx y hy h1 h2 => (Qdc l hf13 hb hd (l[j]) htm (fun _ => True) (fun _ _ _ _ _ _ => trivial) trivial).2.2 x hx h1 y hy h2
   obtain ⟨o, g1, g2, g3⟩ := Qkl l hl hb hps a b j (fun x => (x.f0, x.f1.f1) ∈ Qlh l (l[j])) hP (l.length + 1) ((List.replicate l.length false).set j true) (by
     have := List.count_le_length (a := false) (l := (List.replicate l.length false).set j true)
     rw [List.length_set, hlen] at this; omega) ⟨by rw [List.length_set]; exact hlen, fun i hi hbi => by
     rw [Qgl _ j i (by omega)] at hbi
     by_cases hji : j = i
     ·
      subst hji; exact (Qdc l hf13 hb hd (l[j]) htm (fun _ => True) (fun _ _ _ _ _ _ => trivial) trivial).2.1
     ·
      rw [if_neg hji, Qnn] at hbi
      exact absurd hbi (by decide), by rw [Qgl _ j j (by omega), if_pos rfl]⟩
   refine ⟨o, Evk.step g1 (fun kk => by rw [F0.l0, if_neg (by omega), if_neg (by omega), if_pos (by omega), if_pos (by omega), Int.toNat_natCast]), g2.len, .inr ⟨l[j], hf, fun i hi => ?_⟩⟩
   by_cases hin : ((l[i]).f0, (l[i]).f1.f1) ∈ Qlh l (l[j])
   ·
    rw [decide_eq_true hin]
    obtain ⟨q1, _, _⟩ := Qdc l hf13 hb hd (l[j]) htm (fun x => ∃ (i : Nat) (hi : i < l.length), x = l[i] ∧ bAt o i = true) (fun x hx y hy ⟨i, hi, ex, hbi⟩ hxy => by
     obtain ⟨k, hk, rfl⟩ := List.mem_iff_getElem.1 hy; subst ex
     exact ⟨k, hk, rfl, g3 i k hi hk hbi hxy⟩) ⟨j, hj, rfl, g2.fst⟩
    obtain ⟨y, hy, e, ⟨k, hk, ek, hbk⟩, _⟩ := q1 _ hin; have exy := Qlj l hd _ (List.getElem_mem hi) y hy (congrArg Prod.fst e); rw [← exy] at ek
    have hik : i = k := by
     have hp := List.pairwise_iff_getElem.1 hd
     rcases Nat.lt_trichotomy i k with h | h | h
     ·
      exact absurd (by rw [← ek]) (hp i k hi hk h)
     ·
      exact h
     ·
      exact absurd (by rw [← ek]) (hp k i hk hi h)
    rw [hik]; exact hbk
   ·
    rw [decide_eq_false hin]
    cases hbi : bAt o i with
    | false => rfl
    | true => exact absurd (g2.snd i hi hbi) hin
def Qco (l : List SE) (x y : ByteArray) : Bool := match l.find? (fun z => z.f0.toList == x.toList) with
 | none => false
 | some t => (Si.look (Qlh l t) y).isSome
theorem path_c {l : List SE} (hf : Qa4 l) (a b : Int) (x y : ByteArray) (hy : y.size ≤ 140737488351232) : Gt.f a b l x y = some (Qco l x y) := by
 unfold Gt.f; rw [if_pos ⟨hf.ok, hy⟩]; unfold Si.innX Qco; rw [Qey]
 cases hq : l.find? (fun z => z.f0.toList == x.toList) with
 | none => rfl
 | some t =>
  have ht := List.mem_of_find?_eq_some hq; obtain ⟨q, hq2⟩ := Qnh hf 70 t.f1.f1 (by have h1 := List.length_filter_le (fun z : SE => decide (z.f1.f1 ≤ t.f1.f1)) l; have h2 := hf.few; omega) (hf.wf t ht) (hf.ro t ht); have e : Qh5 l t.f1.f1 = q := by unfold Qh5; rw [hq2]; rfl
  dsimp only [Option.map]; rw [show (Qb3 t).ro = t.f1.f1 from rfl, hq2]; unfold Qlh; rw [e]; rfl
theorem Qm7 (l : List SE) (hl : l.length ≤ 60) (a b : Int) (o : List Bool) (ho : o.length = l.length) (y : ByteArray) : ∀ (n i : Nat), i + n = l.length → ∃ c, Evk (fun k => Fx.l0 k y o (i : Int) a b l) c ∧ (c = true ↔ ∃ (j : Nat) (hj : j < l.length), i ≤ j ∧ bAt o j = true ∧ (l[j]).f0.toList = y.toList)
 | 0, i, h => ⟨false, Evk.step (Evk.ret false) (fun k => by rw [Fx.l0, if_neg (by omega)]), ⟨fun h => (by cases h), fun ⟨j, hj, h1, _⟩ => by omega⟩⟩
 | n + 1, i, h => by
  have hi : i < l.length := by omega
  obtain ⟨c, g1, g2⟩ := Qm7 l hl a b o ho y n (i + 1) (by omega)
  have hskip : (¬ (bAt o i = true ∧ (l[i]).f0.toList = y.toList)) → (c = true ↔ ∃ (j : Nat) (hj : j < l.length), i ≤ j ∧ bAt o j = true ∧ (l[j]).f0.toList = y.toList) := fun hno => g2.trans ⟨fun ⟨j, hj, h1, h2⟩ => ⟨j, hj, by omega, h2⟩, fun ⟨j, hj, h1, h2⟩ => by
   by_cases e : j = i
   ·
    subst e; exact absurd h2 hno
   ·
    exact ⟨j, hj, by omega, h2⟩⟩
  cases hb : bAt o i with
  | false => exact ⟨c, Evk.step g1 (fun k => by rw [Fx.l0, if_pos (by omega), if_pos (by omega), if_pos (by omega), if_neg (by rw [show Qby false o (i : Int) = false from hb]; decide), ws i (by omega)]), hskip (fun h => by rw [hb] at h; cases h.1)⟩
  | true =>
   by_cases hq : (l[i]).f0.toList = y.toList
   ·
    exact ⟨true, Evk.step (Evk.ret true) (fun k => by rw [Fx.l0, if_pos (by omega), if_pos (by omega), if_pos (by omega), if_pos (show Qby false o (i : Int) = true from hb), Qbf l i hi, if_pos hq]), ⟨fun _ => ⟨i, hi, Nat.le_refl _, hb, hq⟩, fun _ => rfl⟩⟩
   ·
    exact ⟨c, Evk.step g1 (fun k => by rw [Fx.l0, if_pos (by omega), if_pos (by omega), if_pos (by omega), if_pos (show Qby false o (i : Int) = true from hb), Qbf l i hi, if_neg hq, ws i (by omega)]), hskip (fun h => hq h.2)⟩
theorem rpath_c {l : List SE} (hf : Qa4 l) (hd : l.Pairwise (fun x y => x.f0.toList ≠ y.f0.toList)) (a b : Int) (x y : ByteArray) : Evk (fun k => Fx.f k a b l x y) (Qco l x y) := by
 have hl := hf.few; obtain ⟨o, h1, h2, h3⟩ := Qpt l hf (by omega) hf.bd hd hf.pm a b x; obtain ⟨c, g1, g2⟩ := Qm7 l hl a b o h2 y l.length 0 (by omega)
 have e : c = Qco l x y := by
  rw [Bool.eq_iff_iff, g2]; unfold Qco
  rcases h3 with ⟨q1, q2⟩ | ⟨t, q1, q2⟩
  ·
   rw [q1]; exact ⟨fun ⟨j, hj, _, q, _⟩ => (by rw [q2 j] at q; cases q), fun h => (by cases h)⟩
  ·
   rw [q1]; dsimp only; have ht := List.mem_of_find?_eq_some q1; constructor
   ·
    rintro ⟨j, hj, _, q, e⟩; rw [q2 j hj] at q; obtain ⟨u, hu⟩ := Qhz _ _ _ (of_decide_eq_true q); rw [Qfg e] at hu; rw [hu]; rfl
   ·
    intro h; obtain ⟨v, hv⟩ := Option.isSome_iff_exists.1 h; have hm := Qj5 _ _ _ hv; obtain ⟨z, hz, e, _, _⟩ := (Qdc l hf hf.bd hd t ht (fun _ => True) (fun _ _ _ _ _ _ => trivial) trivial).1 _ hm; obtain ⟨j, hj, rfl⟩ := List.mem_iff_getElem.1 hz; have e1 : y = (l[j]).f0 := congrArg Prod.fst e; have e2 : v = (l[j]).f1.f1 := congrArg Prod.snd e; refine ⟨j, hj, Nat.zero_le _, ?_, by rw [e1]⟩; rw [q2 j hj, ← e1, ← e2]; exact decide_eq_true hm
 rw [← e]; exact Evk.bind h1 g1
def upV (F : Int → RE) (P : ByteArray → ByteArray → Bool) (last : Int) : Nat → Int → List SE → ByteArray → List SE
 | 0, _, row, _ => row
 | n + 1, j, row, g => if j > last then (if err (F j) = 0 then (if P g (F j).1 = true then upV F P last n (j - 1) (Qij (F j) :: row) (F j).1 else upV F P last n (j - 1) row g) else upV F P last n (j - 1) row g) else row
def Qks (F D : Int → RE) (P : ByteArray → ByteArray → Bool) (last : Int) : Nat → Int → List SE × Int
 | 0, _ => ([], last)
 | n + 1, v => if v ≤ last then ([], last) else if err (D v) = 0 then (upV F P last n (v - 1) [Qij (D v)] (D v).1, v) else Qks F D P last n (v - 1)
theorem Qj0 (F : Int → RE) (P : ByteArray → ByteArray → Bool) (last : Int) (Q : SE → Prop) (hF : ∀ j, Q (Qij (F j))) : ∀ (n : Nat) (j : Int) (row : List SE) (g : ByteArray), (∀ x ∈ row, Q x) → (∀ x ∈ upV F P last n j row g, Q x) ∧ (upV F P last n j row g).length ≤ row.length + n
 | 0, _, row, _, h => ⟨h, Nat.le_refl _⟩
 | n + 1, j, row, g, h => by
  rw [upV]; split
  ·
   split
   ·
    split
    ·
     obtain ⟨h1, h2⟩ := Qj0 F P last Q hF n (j - 1) (Qij (F j) :: row) (F j).1 (fun x hx => by
      rcases List.mem_cons.1 hx with rfl | hx
      ·
       exact hF j
      ·
       exact h x hx)
     exact ⟨h1, by rw [List.length_cons] at h2; omega⟩
    ·
     obtain ⟨h1, h2⟩ := Qj0 F P last Q hF n (j - 1) row g h; exact ⟨h1, by omega⟩
   ·
    obtain ⟨h1, h2⟩ := Qj0 F P last Q hF n (j - 1) row g h; exact ⟨h1, by omega⟩
  ·
   exact ⟨h, by omega⟩
theorem Qne (F D : Int → RE) (P : ByteArray → ByteArray → Bool) (last : Int) (Q : SE → Prop) (hF : ∀ j, Q (Qij (F j))) (hD : ∀ j, Q (Qij (D j))) : ∀ (n : Nat) (v : Int), (∀ x ∈ (Qks F D P last n v).1, Q x) ∧ (Qks F D P last n v).1.length ≤ n + 1
 | 0, _ => ⟨fun x h => (by cases h), Nat.zero_le _⟩
 | n + 1, v => by
  rw [Qks]; split
  ·
   exact ⟨fun x h => (by cases h), Nat.zero_le _⟩
  ·
   split
   ·
    obtain ⟨h1, h2⟩ := Qj0 F P last Q hF n (v - 1) [Qij (D v)] (D v).1 (fun x hx => by rw [List.mem_singleton.1 hx]; exact hD v); exact ⟨h1, by dsimp only; simp only [List.length_cons, List.length_nil] at h2; omega⟩
   ·
    obtain ⟨h1, h2⟩ := Qne F D P last Q hF hD n (v - 1); exact ⟨h1, by omega⟩
theorem up_ev {l : List SE} (hf : Qa4 l) (a b last x6 : Int) (hs : ∀ j, (Qa5 a l j).1.size ≤ 140737488351232) : ∀ (n : Nat) (j : Int) (row : List SE) (g0 : ByteArray) (g1 g2 : Int) (g3 : List Qaz) (g4 : List ByteArray) (g5 g6 : Int), j.toNat = n → -4611686018427387904 ≤ j → j ≤ 1000 → row.length + n ≤ 1000000 →
  Evk (fun k => F2.l1 k last x6 row j a b l g0 g1 g2 g3 g4 g5 g6) (upV (Qa5 a l) (Qco l) last n j row g0, x6) := by
 intro n
 have hend : ∀ (j : Int) (row : List SE) (g0 : ByteArray) (g1 g2 : Int) (g3 : List Qaz) (g4 : List ByteArray) (g5 g6 : Int), (j ≤ last ∨ j < 1) → Evk (fun k => F2.l1 k last x6 row j a b l g0 g1 g2 g3 g4 g5 g6) (row, x6) := fun j row g0 g1 g2 g3 g4 g5 g6 h => by
  refine Evk.step (g := fun k => F2.j3 k last x6 row j false a b l g0 g1 g2 g3 g4 g5 g6) (Evk.step (Evk.ret (row, x6)) (fun k => by rw [F2.j3, if_neg (by decide)])) (fun k => ?_); rw [F2.l1]
  by_cases h1 : j > last
  ·
   rw [if_pos h1, decide_eq_false (by omega)]
  ·
   rw [if_neg h1]
 induction n with
 | zero =>
  intro j row g0 g1 g2 g3 g4 g5 g6 hn hj0 hj1 hr; exact hend j row g0 g1 g2 g3 g4 g5 g6 (.inr (by omega))
 | succ n ih =>
  intro j row g0 g1 g2 g3 g4 g5 g6 hn hj0 hj1 hr; rw [upV]
  by_cases h : j > last
  ·
   have h1 := Qfd hf a b j; have hz := hs j; generalize Qa5 a l j = r at h1 hz; have hw : wrap64 (j - 1) = j - 1 := w64 _ (by omega) (by omega); have a1 := ih (j - 1) row g0 g1 g2 g3 g4 g5 g6 (by omega) (by omega) (by omega) (by omega); have b1 := ih (j - 1) (Qij r :: row) r.1 r.2.1 r.2.2.1 r.2.2.2.1 r.2.2.2.2.1 r.2.2.2.2.2.1 r.2.2.2.2.2.2.1 (by omega) (by omega) (by omega) (by simp only [List.length_cons]; omega); rw [← hw] at a1 b1; rw [if_pos h]; refine Evk.step (g := fun k => F2.j3 k last x6 row j true a b l g0 g1 g2 g3 g4 g5 g6) (Qbp ?_) (fun k => by rw [F2.l1, if_pos h, decide_eq_true (by omega)]); simp only [F2.j3, if_true]; refine Evk.bind h1 ?_
   by_cases he : err r = 0
   ·
    rw [if_pos he]; refine Evk.of_eq ?_ (fun k => if_pos he); have hpc := path_c hf a b g0 r.1 hz
    cases hp : Qco l g0 r.1 with
    | true =>
     rw [if_pos rfl]; rw [hw] at b1 ⊢; refine Evk.of_eq b1 (fun k => ?_); rw [hpc, Option.bind_some, hp, if_pos rfl, Option.bind_some, if_pos (by simp only [List.length_cons, List.length_nil]; omega)]; rfl
    | false =>
     rw [if_neg (by decide)]; rw [hw] at a1 ⊢; refine Evk.of_eq a1 (fun k => ?_); rw [hpc, Option.bind_some, hp, if_neg (by decide)]
   ·
    rw [if_neg he]; rw [hw] at a1 ⊢; exact Evk.of_eq a1 (fun k => if_neg he)
  ·
   rw [if_neg h]; exact hend j row g0 g1 g2 g3 g4 g5 g6 (.inl (by omega))
theorem rup_ev {l : List SE} (hf : Qa4 l) (hd : l.Pairwise (fun x y => x.f0.toList ≠ y.f0.toList)) (a b last x6 : Int) (hs : ∀ j, (Qa5 a l j).1.size ≤ 140737488351232) : ∀ (n : Nat) (j : Int) (row : List SE) (g0 : ByteArray) (g1 g2 : Int) (g3 : List Qaz) (g4 : List ByteArray) (g5 g6 : Int), j.toNat = n → -4611686018427387904 ≤ j → j ≤ 1000 → row.length + n ≤ 1000000 →
  Evk (fun k => F3.l1 k last x6 row j a b l g0 g1 g2 g3 g4 g5 g6) (upV (Qa5 a l) (Qco l) last n j row g0, x6) := by
 intro n
 have hend : ∀ (j : Int) (row : List SE) (g0 : ByteArray) (g1 g2 : Int) (g3 : List Qaz) (g4 : List ByteArray) (g5 g6 : Int), (j ≤ last ∨ j < 1) → Evk (fun k => F3.l1 k last x6 row j a b l g0 g1 g2 g3 g4 g5 g6) (row, x6) := fun j row g0 g1 g2 g3 g4 g5 g6 h => by
  refine Evk.step (g := fun k => F3.j3 k last x6 row j false a b l g0 g1 g2 g3 g4 g5 g6) (Evk.step (Evk.ret (row, x6)) (fun k => by rw [F3.j3, if_neg (by decide)])) (fun k => ?_); rw [F3.l1]
  by_cases h1 : j > last
  ·
   rw [if_pos h1, decide_eq_false (by omega)]
  ·
   rw [if_neg h1]
 induction n with
 | zero =>
  intro j row g0 g1 g2 g3 g4 g5 g6 hn hj0 hj1 hr; exact hend j row g0 g1 g2 g3 g4 g5 g6 (.inr (by omega))
 | succ n ih =>
  intro j row g0 g1 g2 g3 g4 g5 g6 hn hj0 hj1 hr; rw [upV]
  by_cases h : j > last
  ·
   have h1 := Qek hf a b j; have hz := hs j; generalize Qa5 a l j = r at h1 hz; have hw : wrap64 (j - 1) = j - 1 := w64 _ (by omega) (by omega); have a1 := ih (j - 1) row g0 g1 g2 g3 g4 g5 g6 (by omega) (by omega) (by omega) (by omega); have b1 := ih (j - 1) (Qij r :: row) r.1 r.2.1 r.2.2.1 r.2.2.2.1 r.2.2.2.2.1 r.2.2.2.2.2.1 r.2.2.2.2.2.2.1 (by omega) (by omega) (by omega) (by simp only [List.length_cons]; omega); rw [← hw] at a1 b1; rw [if_pos h]; refine Evk.step (g := fun k => F3.j3 k last x6 row j true a b l g0 g1 g2 g3 g4 g5 g6) (Qbp ?_) (fun k => by rw [F3.l1, if_pos h, decide_eq_true (by omega)]); simp only [F3.j3, if_true]; refine Evk.bind h1 ?_
   by_cases he : err r = 0
   ·
    rw [if_pos he]; refine Evk.of_eq ?_ (fun k => if_pos he); refine Evk.bind (rpath_c hf hd a b g0 r.1) ?_
    cases hp : Qco l g0 r.1 with
    | true =>
     rw [if_pos rfl]; rw [hw] at b1 ⊢; refine Evk.of_eq b1 (fun k => ?_); rw [if_pos rfl, Option.bind_some, if_pos (by simp only [List.length_cons, List.length_nil]; omega)]; rfl
    | false =>
     rw [if_neg (by decide)]; rw [hw] at a1 ⊢; refine Evk.of_eq a1 (fun k => ?_); rw [if_neg (by decide)]
   ·
    rw [if_neg he]; rw [hw] at a1 ⊢; exact Evk.of_eq a1 (fun k => if_neg he)
  ·
   rw [if_neg h]; exact hend j row g0 g1 g2 g3 g4 g5 g6 (.inl (by omega))
theorem low_ev {l : List SE} (hf : Qa4 l) (a b last : Int) (hs : ∀ j, (Qa5 a l j).1.size ≤ 140737488351232) : ∀ (n : Nat) (v : Int), v.toNat = n → -1000 ≤ v → v ≤ 1000 → Evk (fun k => F2.l0 k last v a b l) (Qks (Qa5 a l) (Qf8 a l) (Qco l) last n v) := by
 intro n
 have hend : ∀ v, (v ≤ last ∨ v < 1) → Evk (fun k => F2.l0 k last v a b l) (([] : List SE), last) := fun v h => by
  refine Evk.step (g := fun k => F2.j1 k last v true a b l) (Evk.step (Evk.ret (([] : List SE), last)) (fun k => by rw [F2.j1, if_pos rfl])) (fun k => ?_); rw [F2.l0]
  by_cases h1 : v ≤ last
  ·
   rw [if_pos h1]
  ·
   rw [if_neg h1, decide_eq_true (by omega)]
 induction n with
 | zero =>
  intro v hn h0 h1; exact hend v (.inr (by omega))
 | succ n ih =>
  intro v hn h0 h1; rw [Qks]
  by_cases h : v ≤ last
  ·
   rw [if_pos h]; exact hend v (.inl h)
  ·
   rw [if_neg h]; have hw : wrap64 (v - 1) = v - 1 := w64 _ (by omega) (by omega); have hd := dec_c hf a b v; generalize Qf8 a l v = r at hd; refine Evk.step (g := fun k => F2.j1 k last v false a b l) (Qbp ?_) (fun k => by rw [F2.l0, if_neg h, decide_eq_false (by omega)]); have c0 : (false = true) = False := by simp
   simp only [F2.j1, c0, if_false, hw]; refine Evk.bind hd ?_
   by_cases he : err r = 0
   ·
    rw [if_pos he]; refine Evk.of_eq ?_ (fun k => if_pos he); exact up_ev hf a b last v hs n (v - 1) [Qij r] r.1 r.2.1 r.2.2.1 r.2.2.2.1 r.2.2.2.2.1 r.2.2.2.2.2.1 r.2.2.2.2.2.2.1 (by omega) (by omega) (by omega) (by simp only [List.length_cons, List.length_nil]; omega)
   ·
    rw [if_neg he]; exact Evk.of_eq (ih (v - 1) (by omega) (by omega) (by omega)) (fun k => if_neg he)
theorem Qnc {l : List SE} (hf : Qa4 l) (a b last : Int) (hs : ∀ j, (Qa5 a l j).1.size ≤ 140737488351232) (h0 : 0 ≤ Qeo 0 l) (h1 : Qeo 0 l ≤ 20) : Evk (fun k => F2.f k a b l last) (Qks (Qa5 a l) (Qf8 a l) (Qco l) last (Qeo 0 l).toNat (Qeo 0 l)) :=
 Evk.of_eq (Evk.bind (g := fun k t => F2.l0 k last t a b l) (c_top hf a b) (low_ev hf a b last hs (Qeo 0 l).toNat (Qeo 0 l) rfl (by omega) (by omega))) (fun k => by unfold F2.f; rfl)
theorem rlow_ev {l : List SE} (hf : Qa4 l) (hdd : l.Pairwise (fun x y => x.f0.toList ≠ y.f0.toList)) (a b last : Int) (hs : ∀ j, (Qa5 a l j).1.size ≤ 140737488351232) (g0 : ByteArray) (g1 g2 : Int) (g3 : List Qaz) (g4 : List ByteArray) (g5 g6 : Int) : ∀ (n : Nat) (v : Int), v.toNat = n → -1000 ≤ v → v ≤ 1000 → Evk (fun k => F3.l0 k last v false a b l g0 g1 g2 g3 g4 g5 g6) (Qks (Qa5 a l) (Qf8 a l) (Qco l) last n v) := by
 intro n
 have hend : ∀ v, (v ≤ last ∨ v < 1) → Evk (fun k => F3.l0 k last v false a b l g0 g1 g2 g3 g4 g5 g6) (([] : List SE), last) := fun v h => by
  refine Evk.step (g := fun k => F3.j1 k last v false false a b l g0 g1 g2 g3 g4 g5 g6) (Evk.step (Evk.ret (([] : List SE), last)) (fun k => by rw [F3.j1, if_neg (by decide), if_neg (by decide)])) (fun k => ?_); rw [F3.l0]
  by_cases h1 : v > last
  ·
   rw [if_pos h1, if_neg (by omega)]
  ·
   rw [if_neg h1]
 induction n with
 | zero =>
  intro v hn h0 h1; exact hend v (.inr (by omega))
 | succ n ih =>
  intro v hn h0 h1; rw [Qks]
  by_cases h : v ≤ last
  ·
   rw [if_pos h]; exact hend v (.inl h)
  ·
   rw [if_neg h]; have hw : wrap64 (v - 1) = v - 1 := w64 _ (by omega) (by omega); have hd := rdec_c hf a b v; generalize Qf8 a l v = r at hd; refine Evk.step (g := fun k => F3.j1 k last v false true a b l g0 g1 g2 g3 g4 g5 g6) (Qbp ?_) (fun k => by rw [F3.l0, if_pos (by omega), if_pos (by omega)]; rfl); simp only [F3.j1, if_true, hw]; refine Evk.bind hd ?_
   by_cases he : err r = 0
   ·
    rw [if_pos he]; refine Evk.of_eq ?_ (fun k => if_pos he); have hu := rup_ev hf hdd a b last v hs n (v - 1) [Qij r] r.1 r.2.1 r.2.2.1 r.2.2.2.1 r.2.2.2.2.1 r.2.2.2.2.2.1 r.2.2.2.2.2.2.1 (by omega) (by omega) (by omega) (by simp only [List.length_cons, List.length_nil]; omega); rw [← hw] at hu; have hj : Evk (fun k => F3.j1 k last v true false a b l r.1 r.2.1 r.2.2.1 r.2.2.2.1 r.2.2.2.2.1 r.2.2.2.2.2.1 r.2.2.2.2.2.2.1) (upV (Qa5 a l) (Qco l) last n (wrap64 (v - 1)) [Qij r] r.1, v) := Evk.step hu (fun k => by rw [F3.j1, if_neg (by decide), if_pos rfl]; rfl); rw [hw] at hj; exact Evk.step hj (fun k => by rw [F3.l0, if_pos (by omega), if_pos (by omega)]; rfl)
   ·
    rw [if_neg he]; exact Evk.of_eq (ih (v - 1) (by omega) (by omega) (by omega)) (fun k => if_neg he)
theorem Qow {l : List SE} (hf : Qa4 l) (hdd : l.Pairwise (fun x y => x.f0.toList ≠ y.f0.toList)) (a b last : Int) (hs : ∀ j, (Qa5 a l j).1.size ≤ 140737488351232) (h0 : 0 ≤ Qeo 0 l) (h1 : Qeo 0 l ≤ 20) : Evk (fun k => F3.f k a b l last) (Qks (Qa5 a l) (Qf8 a l) (Qco l) last (Qeo 0 l).toNat (Qeo 0 l)) :=
 Evk.of_eq (Evk.bind (g := fun k t => F3.l0 k last t false a b l (⟨#[]⟩ : ByteArray) 0 0 ([] : List (Qaz)) ([] : List ByteArray) 0 0) (r_top hf a b) (rlow_ev hf hdd a b last hs (⟨#[]⟩ : ByteArray) 0 0 [] [] 0 0 (Qeo 0 l).toNat (Qeo 0 l) rfl (by omega) (by omega))) (fun k => by unfold F3.f; rfl)
theorem topS_in (l : List SE) (hr : ∀ x ∈ l, x.f1.f1 ≤ 60) : ∀ T : Int, 0 ≤ T → T ≤ 20 → 0 ≤ Qeo T l ∧ Qeo T l ≤ 20 := by
 induction l with
 | nil => exact fun T h0 h1 => ⟨h0, h1⟩
 | cons x r ih =>
  intro T h0 h1; have hw := Qoo x.f1.f1 (hr x (List.mem_cons_self ..)); exact ih (fun y hy => hr y (List.mem_cons_of_mem _ hy)) (mx T (Qeh x.f1.f1)) (by unfold mx; split <;> omega) (by unfold mx; split <;> omega)
theorem Qgq {l : List SE} (hf : Qa4 l) (a w : Int) : (Qa5 a l w).1.size ≤ 140737488351232 := by
 unfold Qa5 Qfx; split
 ·
  cases hx : byC l (Qkx a l w).1 (wrap64 (wrap64 (3 * w) - 2)) with
  | some x => exact hf.dg x (List.mem_of_find?_eq_some hx)
  | none => exact (by decide : (ByteArray.mk #[]).size ≤ 140737488351232)
 ·
  exact (by decide : (ByteArray.mk #[]).size ≤ 140737488351232)
theorem Qgm : ∀ l : List ByteArray, l.length ≤ (l.map (fun s : ByteArray => s.size + 1)).sum
 | [] => Nat.le_refl _
 | a :: r => by
  have := Qgm r; simp only [List.map_cons, List.sum_cons, List.length_cons]; omega
theorem Qkq : ∀ l : List SE, l.length ≤ (l.map B32).sum
 | [] => Nat.le_refl _
 | a :: r => by
  have h1 := Qkq r; have e : B32 a = a.f0.size + 1 + B30 a.f1 + 1 := rfl; simp only [List.map_cons, List.sum_cons, List.length_cons]; omega
theorem Qo1 (l : List Qaz) (i : Nat) (h : i < l.length) : Qaq l (i : Int) = l[i] := by
 unfold Qaq; rw [Int.toNat_natCast, List.getD_eq_getElem?_getD, List.getElem?_eq_getElem h]; rfl
theorem Qmm (l : List ByteArray) (hl : l.length ≤ 8796093022208) : ∀ (n i : Nat), i + n = l.length → Evk (fun k => Ft.l0 k l l (i : Int)) true
 | 0, i, h => Evk.step (Evk.ret true) (fun k => by rw [Ft.l0, if_neg (by omega)])
 | n + 1, i, h => Evk.step (Qmm l hl n (i + 1) (by omega)) (fun k => by rw [Ft.l0, if_pos (by omega), if_pos (by omega), if_pos (by omega), if_pos rfl, ws i (by omega)])
theorem Qjx (l : List ByteArray) (hl : l.length ≤ 8796093022208) : Evk (fun k => Ft.f k l l) true := Evk.of_eq (Qmm l hl l.length 0 (by omega)) (fun k => by rw [Ft.f, if_pos rfl]; rfl)
theorem Qoq (a b : Int) (l : List ByteArray) (hl : l.length ≤ 8796093022208) : Evk (fun k => Gu.f k a b l a b l) true := by
 unfold Gu.f; refine Evk.bind (Qjx l hl) ?_; exact Evk.of_eq (Evk.ret true) (fun k => by rw [if_pos rfl, if_pos rfl, beq_self_eq_true])
theorem Qhl (l : List Qaz) (hl : l.length ≤ 8796093022208) (h2 : ∀ x ∈ l, x.f2.length ≤ 8796093022208) : ∀ (n i : Nat), i + n = l.length → Evk (fun k => Fm.l0 k l l (i : Int)) true
 | 0, i, h => Evk.step (Evk.ret true) (fun k => by rw [Fm.l0, if_neg (by omega)])
 | n + 1, i, h => by
  have hi : i < l.length := by omega
  have e := Qo1 l i hi; have h1 : ((i : Int) < (l.length : Int)) = True := eq_true (by omega); have h3 : (0 ≤ (i : Int)) = True := eq_true (by omega); refine Qbp ?_; simp only [Fm.l0, h1, h3, if_true, e, ws i (show i ≤ 4611686018427387000 by omega)]; refine Evk.bind (Qoq _ _ _ (h2 _ (List.getElem_mem hi))) ?_; exact Evk.of_eq (Qhl l hl h2 n (i + 1) (by omega)) (fun k => if_pos rfl)
theorem Qk0 (l : List Qaz) (hl : l.length ≤ 8796093022208) (h2 : ∀ x ∈ l, x.f2.length ≤ 8796093022208) : Evk (fun k => Fm.f k l l) true := Evk.of_eq (Qhl l hl h2 l.length 0 (by omega)) (fun k => by rw [Fm.f, if_pos rfl]; rfl)
theorem Qoa (a b : Int) (l : List Qaz) (ps : List ByteArray) (c d : Int) (hl : l.length ≤ 8796093022208) (h2 : ∀ x ∈ l, x.f2.length ≤ 8796093022208) (hp : ps.length ≤ 8796093022208) : Evk (fun k => Gn.f k a b l ps c d a b l ps c d) true := by
 unfold Gn.f; refine Evk.bind (Qjx ps hp) ?_; refine Evk.bind (Qk0 l hl h2) ?_; exact Evk.of_eq (Evk.ret true) (fun k => by rw [if_pos rfl, if_pos rfl, if_pos rfl, if_pos rfl, beq_self_eq_true, beq_self_eq_true]; rfl)
def Qnr (x : SE) : Prop := x.f1.f2.length ≤ 8796093022208 ∧ (∀ y ∈ x.f1.f2, y.f2.length ≤ 8796093022208) ∧ x.f1.f3.length ≤ 8796093022208
theorem Qib (l : List SE) (hl : l.length ≤ 8796093022208) (h2 : ∀ x ∈ l, Qnr x) : ∀ (n i : Nat), i + n = l.length → Evk (fun k => F8.l0 k l l (i : Int)) true
 | 0, i, h => Evk.step (Evk.ret true) (fun k => by rw [F8.l0, if_neg (by omega)])
 | n + 1, i, h => by
  have hi : i < l.length := by omega
  have e := Qbf l i hi; have h1 : ((i : Int) < (l.length : Int)) = True := eq_true (by omega); have h3 : (0 ≤ (i : Int)) = True := eq_true (by omega); obtain ⟨f1, f2, f3⟩ := h2 _ (List.getElem_mem hi); refine Qbp ?_; simp only [F8.l0, h1, h3, if_true, e, ws i (show i ≤ 4611686018427387000 by omega)]; refine Evk.bind (Qoa _ _ _ _ _ _ f1 f2 f3) ?_; exact Evk.of_eq (Qib l hl h2 n (i + 1) (by omega)) (fun k => if_pos rfl)
theorem Qlm (l : List SE) (hl : l.length ≤ 8796093022208) (h2 : ∀ x ∈ l, Qnr x) : Evk (fun k => F8.f k l l) true := Evk.of_eq (Qib l hl h2 l.length 0 (by omega)) (fun k => by rw [F8.f, if_pos rfl]; rfl)
theorem Qni : ∀ (l : List SE), ∀ x ∈ l, x.f1.f3.length ≤ (l.map B32).sum
 | a :: r, x, hx => by
  have h3 := Qgm a.f1.f3; have e : B32 a = a.f0.size + 1 + B30 a.f1 + 1 := rfl; have e' : B30 a.f1 = 1 + 1 + ((a.f1.f2.map B107).sum + 1) + ((a.f1.f3.map (fun s : ByteArray => s.size + 1)).sum + 1) + B28 a.f1.f4 + 1 := rfl; simp only [List.map_cons, List.sum_cons]
  rcases List.mem_cons.1 hx with rfl | hx
  ·
   omega
  ·
   have := Qni r x hx; omega
theorem fine_of (x : SE) (h : G32 x) : Qnr x := ⟨by have := h.2.2.2.1.1; omega, fun y hy => by have := (h.2.2.2.1.2 y hy).2.2.1; omega, by have := h.2.2.2.2.1.1; omega⟩
theorem Qh1 (l : List SE) (hl : l.length ≤ 1048576) (a b : Int) : ∀ (n i : Nat), i + n = l.length → ∃ r : Bool, Evk (fun k => G9.l0 k (i : Int) a b l) r ∧ (r = true → l.length ≤ 60 ∧ ∀ (p : Nat) (hp : p < l.length), i ≤ p → (l[p]).f1.f1 ≤ 60)
 | 0, i, h => ⟨decide ((l.length : Int) ≤ 60), Evk.step (Evk.ret _) (fun k => by rw [G9.l0, if_neg (by omega)]), fun hc => ⟨by have := of_decide_eq_true hc; omega, fun p hp hi => by omega⟩⟩
 | n + 1, i, h => by
  have hi : i < l.length := by omega
  by_cases h1 : (l[i]).f1.f1 > 60
  ·
   exact ⟨false, Evk.step (Evk.ret false) (fun k => by rw [G9.l0, if_pos (by omega), if_pos (by omega), Qbf l i hi, if_pos h1]), fun hc => by cases hc⟩
  ·
   obtain ⟨r, h2, h3⟩ := Qh1 l hl a b n (i + 1) (by omega); refine ⟨r, Evk.step h2 (fun k => by rw [G9.l0, if_pos (by omega), if_pos (by omega), Qbf l i hi, if_neg h1, ws i (by omega)]), fun hr => ⟨(h3 hr).1, fun p hp hip => ?_⟩⟩
   by_cases hpi : p = i
   ·
    subst hpi; omega
   ·
    exact (h3 hr).2 p hp (by omega)
theorem Qkk : ∀ l : List SE, l.length ≤ (l.map B32).sum ∧ ((l.map Qb3).map (fun x => x.ps.length)).sum ≤ (l.map B32).sum
 | [] => ⟨Nat.le_refl _, Nat.le_refl _⟩
 | a :: r => by
  obtain ⟨h1, h2⟩ := Qkk r; have h3 := Qgm a.f1.f3; have e : B32 a = a.f0.size + 1 + B30 a.f1 + 1 := rfl; have e' : B30 a.f1 = 1 + 1 + ((a.f1.f2.map B107).sum + 1) + ((a.f1.f3.map (fun s : ByteArray => s.size + 1)).sum + 1) + B28 a.f1.f4 + 1 := rfl; have e3 : (Qb3 a).ps = a.f1.f3 := rfl; simp only [List.map_cons, List.sum_cons, List.length_cons, e3]; exact ⟨by omega, by omega⟩
theorem okX_of (l : List SE) (h1 : l.length ≤ 1048576) (h2 : (l.map B32).sum ≤ 1048576) (hg : ∀ x ∈ l, G32 x) : Si.okX (l.map Qb3) = true := by
 refine (Si.okX_iff _).2 ⟨by rw [List.length_map]; omega, fun x hx => ?_, by have := (Qkk l).2; omega⟩; obtain ⟨y, hy, rfl⟩ := List.mem_map.1 hx; obtain ⟨g0, g1⟩ := hg y hy; exact ⟨g0, g1.2.2.2.1.2, g1.2.1⟩
def d11 : ByteArray := ⟨#[56, 90, 237, 60, 111, 227, 97, 97, 205, 91, 149, 80, 127, 128, 16, 20, 209, 149, 82, 49, 162, 178, 57, 24, 61, 213, 242, 150, 252, 22, 8, 155]⟩
def d12 : ByteArray := ⟨#[57, 64, 140, 167, 97, 126, 123, 156, 175, 246, 88, 229, 108, 4, 52, 237, 73, 194, 221, 31, 51, 237, 68, 242, 230, 67, 28, 76, 21, 114, 166, 41]⟩
def d13 : ByteArray := ⟨#[135, 36, 183, 247, 227, 10, 7, 104, 66, 91, 226, 197, 155, 33, 221, 240, 17, 92, 80, 189, 226, 190, 32, 200, 90, 12, 60, 9, 7, 170, 232, 29]⟩
def d14 : ByteArray := ⟨#[232, 247, 118, 6, 1, 165, 16, 17, 127, 154, 237, 205, 247, 181, 40, 72, 145, 190, 68, 7, 12, 167, 20, 246, 54, 14, 183, 70, 63, 182, 216, 104]⟩
def d21 : ByteArray := ⟨#[217, 50, 127, 85, 170, 58, 164, 84, 121, 0, 143, 28, 160, 97, 129, 71, 245, 59, 96, 93, 87, 239, 44, 23, 137, 72, 168, 1, 89, 237, 140, 10]⟩
def d22 : ByteArray := ⟨#[203, 10, 13, 147, 170, 72, 38, 44, 204, 169, 210, 68, 129, 77, 146, 56, 253, 232, 79, 181, 120, 29, 203, 76, 100, 39, 170, 74, 130, 146, 148, 149]⟩
def d23 : ByteArray := ⟨#[38, 86, 193, 109, 102, 193, 28, 5, 212, 90, 73, 165, 87, 32, 25, 230, 59, 211, 82, 69, 174, 49, 3, 1, 254, 112, 165, 106, 154, 163, 226, 136]⟩
def d24 : ByteArray := ⟨#[128, 217, 223, 69, 57, 28, 23, 248, 78, 18, 175, 28, 158, 95, 42, 214, 1, 20, 49, 211, 153, 62, 28, 247, 138, 171, 28, 49, 167, 76, 48, 64]⟩
def d31 : ByteArray := ⟨#[79, 245, 228, 25, 3, 75, 9, 156, 241, 130, 20, 206, 27, 30, 80, 167, 129, 136, 162, 108, 133, 194, 164, 117, 48, 129, 106, 33, 132, 41, 132, 84]⟩
def d32 : ByteArray := ⟨#[213, 7, 208, 188, 153, 39, 253, 103, 29, 55, 209, 240, 234, 165, 5, 240, 93, 131, 192, 21, 46, 115, 146, 200, 127, 24, 44, 102, 191, 37, 18, 30]⟩
def d33 : ByteArray := ⟨#[94, 228, 235, 202, 45, 21, 245, 10, 199, 199, 189, 130, 184, 5, 201, 189, 89, 79, 2, 3, 99, 107, 240, 83, 12, 231, 53, 5, 204, 109, 165, 22]⟩
def d34 : ByteArray := ⟨#[179, 8, 23, 197, 160, 214, 121, 122, 62, 103, 105, 210, 72, 228, 231, 43, 212, 135, 41, 234, 101, 176, 60, 73, 35, 151, 93, 231, 217, 226, 179, 185]⟩
def up1 : List ByteArray := []
def up2 : List ByteArray := [d11, d12, d13, d14]
def up3 : List ByteArray := [d23, d24, d22, d21]
def e11 : SE := ⟨d11, ⟨1, 1, [], up1, ⟨0, 0⟩⟩⟩
def e12 : SE := ⟨d12, ⟨2, 1, [], up1, ⟨0, 0⟩⟩⟩
def e13 : SE := ⟨d13, ⟨3, 1, [], up1, ⟨0, 0⟩⟩⟩
def e14 : SE := ⟨d14, ⟨4, 1, [], up1, ⟨0, 0⟩⟩⟩
def e21 : SE := ⟨d21, ⟨1, 2, [], up2, ⟨0, 0⟩⟩⟩
def e22 : SE := ⟨d22, ⟨2, 2, [], up2, ⟨0, 0⟩⟩⟩
def e23 : SE := ⟨d23, ⟨3, 2, [], up2, ⟨0, 0⟩⟩⟩
def e24 : SE := ⟨d24, ⟨4, 2, [], up2, ⟨0, 0⟩⟩⟩
def e31 : SE := ⟨d31, ⟨1, 3, [], up3, ⟨6572, 4632⟩⟩⟩
def e32 : SE := ⟨d32, ⟨2, 3, [], up3, ⟨2591, 9743⟩⟩⟩
def e33 : SE := ⟨d33, ⟨3, 3, [], up3, ⟨8617, 4847⟩⟩⟩
def e34 : SE := ⟨d34, ⟨4, 3, [], up3, ⟨4636, 9958⟩⟩⟩
def eqBs : List ByteArray → List ByteArray → Bool
 | [], [] => true
 | a :: r, b :: s => (a.toList == b.toList) && eqBs r s
 | _, _ => false
theorem Qiz : ∀ a b : List ByteArray, eqBs a b = true → a = b
 | [], [], _ => rfl
 | a :: r, b :: s, h => by
  rw [eqBs, Bool.and_eq_true, beq_iff_eq] at h; rw [Qfg h.1, Qiz r s h.2]
 | [], b :: s, h => by cases h
 | a :: r, [], h => by cases h
def eqSE (x y : SE) : Bool := (x.f0.toList == y.f0.toList) && (x.f1.f0 == y.f1.f0) && (x.f1.f1 == y.f1.f1) && x.f1.f2.isEmpty && y.f1.f2.isEmpty && eqBs x.f1.f3 y.f1.f3 && (x.f1.f4.f0 == y.f1.f4.f0) && (x.f1.f4.f1 == y.f1.f4.f1)
theorem eqSE_eq (x y : SE) (h : eqSE x y = true) : x = y := by
 unfold eqSE at h; simp only [Bool.and_eq_true, beq_iff_eq, List.isEmpty_iff] at h; obtain ⟨⟨⟨⟨⟨⟨⟨h0, h1⟩, h2⟩, h3⟩, h4⟩, h5⟩, h6⟩, h7⟩ := h; obtain ⟨x0, x1, x2, x3, x4, x5, x6⟩ := x; obtain ⟨y0, y1, y2, y3, y4, y5, y6⟩ := y; dsimp only at h0 h1 h2 h3 h4 h5 h6 h7; rw [Qfg h0, h1, h2, h3, h4, Qiz _ _ h5, h6, h7]
def eqL : List SE → List SE → Bool
 | [], [] => true
 | a :: r, b :: s => eqSE a b && eqL r s
 | _, _ => false
theorem Ql7 : ∀ a b : List SE, eqL a b = true → a = b
 | [], [], _ => rfl
 | a :: r, b :: s, h => by
  rw [eqL, Bool.and_eq_true] at h; rw [eqSE_eq a b h.1, Ql7 r s h.2]
 | [], b :: s, h => by cases h
 | a :: r, [], h => by cases h
def Qii (L : List SE) (id r : Int) (up : List ByteArray) (s t : Int) (e : SE) : Bool := match Fp.f 60 4 0 L id r [] up s t with
 | some (n, lo, M, _) => n == 4 && lo == 0 && eqL M (L ++ [e])
 | none => false
theorem Qp0 (L : List SE) (id r : Int) (up : List ByteArray) (s t : Int) (e : SE) (h : Qii L id r up s t e = true) : ∃ q, Evk (fun k => Fp.f k 4 0 L id r [] up s t) (4, 0, L ++ [e], q) := by
 unfold Qii at h
 cases hq : Fp.f 60 4 0 L id r [] up s t with
 | none => rw [hq] at h; cases h
 | some v =>
  obtain ⟨n, lo, M, q⟩ := v; rw [hq] at h; dsimp only at h; simp only [Bool.and_eq_true, beq_iff_eq] at h; obtain ⟨⟨rfl, rfl⟩, h3⟩ := h; rw [Ql7 _ _ h3] at hq; exact ⟨q, Evk.of_mono (fun k z hz => Fp.mono 4 0 L id r [] up s t k z hz) hq⟩
def ownB (id s t : Int) : Bool := match Gh.f 60 (⟨#[]⟩ : ByteArray) 1 4 id with
 | some (a, b) => a == s && b == t
 | none => false
theorem own_ev (id s t : Int) (h : ownB id s t = true) : Evk (fun k => Gh.f k (⟨#[]⟩ : ByteArray) 1 4 id) (s, t) := by
 unfold ownB at h
 cases hq : Gh.f 60 (⟨#[]⟩ : ByteArray) 1 4 id with
 | none => rw [hq] at h; cases h
 | some v =>
  obtain ⟨a, b⟩ := v; rw [hq] at h; dsimp only at h; simp only [Bool.and_eq_true, beq_iff_eq] at h; obtain ⟨rfl, rfl⟩ := h; exact Evk.of_mono (fun k z hz => Gh.mono (⟨#[]⟩ : ByteArray) 1 4 id k z hz) hq
theorem Qqa (r : Int) (up : List ByteArray) (id : Int) (L : List SE) (e : SE) {v : Int × Int × List SE} (hm : ¬ Int.tmod r 3 = 0) (h1 : 1 ≤ id) (h4 : id ≤ 4) (ha : Qii L id r up 0 0 e = true) (hn : Evk (fun k => F5.l2 k 3 r up (id + 1) 4 0 (L ++ [e])) v) : Evk (fun k => F5.l2 k 3 r up id 4 0 L) v := by
 obtain ⟨q, hq⟩ := Qp0 L id r up 0 0 e ha; refine Qbp ?_; have c1 : (id ≤ 4) = True := eq_true h4; have c2 : (Int.tmod r 3 = 0) = False := eq_false hm; simp only [F5.l2, c1, c2, if_true, if_false]; refine Evk.bind hq ?_; rw [w64 (id + 1) (by omega) (by omega)]; exact hn
theorem l2_b (up : List ByteArray) (id : Int) (L : List SE) (e : SE) {s t : Int} {v : Int × Int × List SE} (h1 : 1 ≤ id) (h4 : id ≤ 4) (ho : ownB id s t = true) (ha : Qii L id 3 up s t e = true) (hn : Evk (fun k => F5.l2 k 3 3 up (id + 1) 4 0 (L ++ [e])) v) : Evk (fun k => F5.l2 k 3 3 up id 4 0 L) v := by
 obtain ⟨q, hq⟩ := Qp0 L id 3 up s t e ha; have hw := own_ev id s t ho; refine Qbp ?_; have c1 : (id ≤ 4) = True := eq_true h4; have c2 : (Int.tmod 3 3 = 0) = True := eq_true (by decide); have c3 : wrap64 (Int.tdiv 3 3) = 1 := by decide +kernel
 simp only [F5.l2, c1, c2, if_true, c3]; refine Evk.bind hw (Evk.bind hq ?_); rw [w64 (id + 1) (by omega) (by omega)]; exact hn
theorem l2_e (r : Int) (up : List ByteArray) (L : List SE) {v : Int × Int × List SE} (h1 : 1 ≤ r) (h4 : r ≤ 3) (hn : Evk (fun k => F5.l0 k 3 (r + 1) 4 0 L) v) : Evk (fun k => F5.l2 k 3 r up 5 4 0 L) v :=
 Evk.step hn (fun k => by rw [F5.l2, if_neg (by omega), w64 (r + 1) (by omega) (by omega)])
def puts : List SE → List ByteArray → Option (List ByteArray)
 | [], up => some up
 | x :: m, up => (Fs.f 60 up x.f0).bind (puts m)
theorem l1_f (r : Int) (m : List SE) (hm : m.length ≤ 60) (L : List SE) (u : List ByteArray) {v : Int × Int × List SE} (hn : Evk (fun k => F5.l2 k 3 r u 1 4 0 L) v) : ∀ (n i : Nat) (up : List ByteArray), i + n = m.length → puts (m.drop i) up = some u → Evk (fun k => F5.l1 k 3 r m up (i : Int) 4 0 L) v
 | 0, i, up, h, hp => by
  rw [List.drop_eq_nil_of_le (by omega)] at hp; obtain rfl := Option.some.inj hp; exact Evk.step hn (fun k => by rw [F5.l1, if_neg (by omega)])
 | n + 1, i, up, h, hp => by
  have hi : i < m.length := by omega
  rw [List.drop_eq_getElem_cons hi] at hp; obtain ⟨up', h1, h2⟩ := Option.bind_eq_some_iff.1 hp; have ih := l1_f r m hm L u hn n (i + 1) up' (by omega) h2; have hpu : Evk (fun k => Fs.f k up (m[i]).f0) up' := Evk.of_mono (fun k z hz => Fs.mono up (m[i]).f0 k z hz) h1; refine Qbp ?_; have c1 : ((i : Int) < (m.length : Int)) = True := eq_true (by omega); have c2 : (0 ≤ (i : Int)) = True := eq_true (by omega); simp only [F5.l1, c1, c2, if_true, Qbf m i hi]; refine Evk.bind hpu ?_; rw [ws i (by omega)]; exact ih
def Qh3 (L : List SE) (r : Int) (m : List SE) (u : List ByteArray) : Bool := (match F6.f 60 4 0 L (r - 1) with
 | some x => eqL x m
 | none => false) && decide (m.length ≤ 60) && (match puts m [] with
 | some x => eqBs x u
 | none => false)
theorem l0_r (r : Int) (L m : List SE) (u : List ByteArray) {v : Int × Int × List SE} (h1 : 1 ≤ r) (h4 : r ≤ 3) (hr : Qh3 L r m u = true) (hn : Evk (fun k => F5.l2 k 3 r u 1 4 0 L) v) : Evk (fun k => F5.l0 k 3 r 4 0 L) v := by
 unfold Qh3 at hr; rw [Bool.and_eq_true, Bool.and_eq_true] at hr; obtain ⟨⟨ha, hb⟩, hc⟩ := hr
 cases hq : F6.f 60 4 0 L (r - 1) with
 | none => rw [hq] at ha; cases ha
 | some x =>
  cases hp : puts m [] with
  | none => rw [hp] at hc; cases hc
  | some y =>
   rw [hq] at ha; rw [hp] at hc; rw [Ql7 _ _ ha] at hq; rw [Qiz _ _ hc] at hp; have hR : Evk (fun k => F6.f k 4 0 L (r - 1)) m := Evk.of_mono (fun k z hz => F6.mono 4 0 L (r - 1) k z hz) hq; refine Qbp ?_; have c1 : (r ≤ 3) = True := eq_true h4; simp only [F5.l0, c1, if_true, w64 (r - 1) (by omega) (by omega)]; exact Evk.bind hR (l1_f r m (of_decide_eq_true hb) L u hn m.length 0 [] (Nat.zero_add _) hp)

theorem a11 : Qii [] 1 1 up1 0 0 e11 = true := by decide +kernel
theorem a12 : Qii [e11] 2 1 up1 0 0 e12 = true := by decide +kernel
theorem a13 : Qii [e11, e12] 3 1 up1 0 0 e13 = true := by decide +kernel
theorem a14 : Qii [e11, e12, e13] 4 1 up1 0 0 e14 = true := by decide +kernel
theorem a21 : Qii [e11, e12, e13, e14] 1 2 up2 0 0 e21 = true := by decide +kernel
theorem a22 : Qii [e11, e12, e13, e14, e21] 2 2 up2 0 0 e22 = true := by decide +kernel
theorem a23 : Qii [e11, e12, e13, e14, e21, e22] 3 2 up2 0 0 e23 = true := by decide +kernel
theorem a24 : Qii [e11, e12, e13, e14, e21, e22, e23] 4 2 up2 0 0 e24 = true := by decide +kernel
theorem a31 : Qii [e11, e12, e13, e14, e21, e22, e23, e24] 1 3 up3 6572 4632 e31 = true := by decide +kernel
theorem o1 : ownB 1 6572 4632 = true := by decide +kernel
theorem a32 : Qii [e11, e12, e13, e14, e21, e22, e23, e24, e31] 2 3 up3 2591 9743 e32 = true := by decide +kernel
theorem o2 : ownB 2 2591 9743 = true := by decide +kernel
theorem a33 : Qii [e11, e12, e13, e14, e21, e22, e23, e24, e31, e32] 3 3 up3 8617 4847 e33 = true := by decide +kernel
theorem o3 : ownB 3 8617 4847 = true := by decide +kernel
theorem a34 : Qii [e11, e12, e13, e14, e21, e22, e23, e24, e31, e32, e33] 4 3 up3 4636 9958 e34 = true := by decide +kernel
theorem o4 : ownB 4 4636 9958 = true := by decide +kernel
theorem r1 : Qh3 [] 1 [] up1 = true := by decide +kernel
theorem r2 : Qh3 [e11, e12, e13, e14] 2 [e11, e12, e13, e14] up2 = true := by decide +kernel
theorem r3 : Qh3 [e11, e12, e13, e14, e21, e22, e23, e24] 3 [e21, e22, e23, e24] up3 = true := by decide +kernel
def L12 : List SE := [e11, e12, e13, e14, e21, e22, e23, e24, e31, e32, e33, e34]
theorem f3 : Evk (fun k => F5.l0 k 3 4 4 0 L12) (4, 0, L12) := Evk.step (Evk.ret _) (fun k => by rw [F5.l0, if_neg (by omega)])
theorem f2 : Evk (fun k => F5.l0 k 3 3 4 0 [e11, e12, e13, e14, e21, e22, e23, e24]) (4, 0, L12) := l0_r 3 [e11, e12, e13, e14, e21, e22, e23, e24] [e21, e22, e23, e24] up3 (by omega) (by omega) r3 (l2_b up3 1 [e11, e12, e13, e14, e21, e22, e23, e24] e31 (by omega) (by omega) o1 a31 (l2_b up3 2 [e11, e12, e13, e14, e21, e22, e23, e24, e31] e32 (by omega) (by omega) o2 a32 (l2_b up3 3 [e11, e12, e13, e14, e21, e22, e23, e24, e31, e32] e33 (by omega) (by omega) o3 a33 (l2_b up3 4 [e11, e12, e13, e14, e21, e22, e23, e24, e31, e32, e33] e34 (by omega) (by omega) o4 a34 (l2_e 3 up3 _ (by omega) (by omega) f3)))))
theorem f1 : Evk (fun k => F5.l0 k 3 2 4 0 [e11, e12, e13, e14]) (4, 0, L12) := l0_r 2 [e11, e12, e13, e14] [e11, e12, e13, e14] up2 (by omega) (by omega) r2 (Qqa 2 up2 1 [e11, e12, e13, e14] e21 (by decide) (by omega) (by omega) a21 (Qqa 2 up2 2 [e11, e12, e13, e14, e21] e22 (by decide) (by omega) (by omega) a22 (Qqa 2 up2 3 [e11, e12, e13, e14, e21, e22] e23 (by decide) (by omega) (by omega) a23 (Qqa 2 up2 4 [e11, e12, e13, e14, e21, e22, e23] e24 (by decide) (by omega) (by omega) a24 (l2_e 2 up2 _ (by omega) (by omega) f2)))))
theorem f0 : Evk (fun k => F5.l0 k 3 1 4 0 []) (4, 0, L12) := l0_r 1 [] [] up1 (by omega) (by omega) r1 (Qqa 1 up1 1 [] e11 (by decide) (by omega) (by omega) a11 (Qqa 1 up1 2 [e11] e12 (by decide) (by omega) (by omega) a12 (Qqa 1 up1 3 [e11, e12] e13 (by decide) (by omega) (by omega) a13 (Qqa 1 up1 4 [e11, e12, e13] e14 (by decide) (by omega) (by omega) a14 (l2_e 1 up1 _ (by omega) (by omega) f1)))))
theorem Qn7 : Evk (fun k => F5.f k 3) (4, 0, L12) := Evk.of_eq f0 (fun k => by unfold F5.f; rfl)
def whoB (L : List SE) (who : Int) : Bool := match byC L who 1 with
 | some x => decide (2 ≤ Qk8 L x.f0 x.f1.f1)
 | none => false
def Qg3 : List S76 → Bool
 | [s, t] => s.f0 == 1 && s.f1.f0 == 6572 && s.f1.f1 == 4632 && t.f0 == 2 && t.f1.f0 == 2591 && t.f1.f1 == 9743
 | _ => false
def S2 : List S76 := [⟨1, ⟨6572, 4632⟩⟩, ⟨2, ⟨2591, 9743⟩⟩]
theorem Qmf (l : List S76) (h : Qg3 l = true) : l = S2 := by
 match l, h with
 | [⟨s0, s1, s2⟩, ⟨t0, t1, t2⟩], h =>
  simp only [Qg3, Bool.and_eq_true, beq_iff_eq] at h; obtain ⟨⟨⟨⟨⟨rfl, rfl⟩, rfl⟩, rfl⟩, rfl⟩, rfl⟩ := h; rfl
def chkB (L : List SE) : Bool := fineB L && whoB L 1 && whoB L 2 && whoB L 3 && whoB L 4 && (Qeo 0 L == 1) && decide (2 ≤ (Qa8 L 3).length) && Qg3 (((Qa8 L 3).take 2).map shC)
set_option maxRecDepth 100000 in
theorem four_ok : chkB L12 = true := by decide +kernel
theorem ap2 : Fl.apB (eS S2) = true := by decide +kernel
theorem odd2 : Fl.oddS (eS S2) = false := by decide +kernel
theorem Qme (x y : Gm.E) : Gm.Ok (Fl.opE Gm.add x y) := by
 unfold Fl.opE; split
 ·
  exact Gm.red_ok _
 ·
  exact (by decide : Gm.Ok (0, 0))
theorem Qqd (l : List (Int × Gm.E)) (wt : Nat → Gm.E) : ∀ (r i : Nat) (o : Gm.E), Gm.Ok o → Gm.Ok (Fl.sumFrom l wt r i o)
 | 0, _, _, h => h
 | r + 1, i, o, h => by
  rw [Fl.sumFrom]; exact Qqd l wt r (i + 1) _ (Qme _ _)
theorem open_ok (l : List S76) (h : Qg3 l = true) : ∃ who, Qfk l 4 = (who, 0) ∧ 1 ≤ who ∧ who ≤ 4 := by
 rw [Qmf l h]
 have hy : Fl.openE (eS S2) (Fl.wtE (eS S2)) = (Fl.sumFrom (eS S2) (Fl.wtE (eS S2)) (eS S2).length 0 (0, 0), 0) := by
  unfold Fl.openE; rw [if_neg (by decide), ap2, if_neg (by decide), odd2, if_neg (by decide)]
 have hs := Qqd (eS S2) (Fl.wtE (eS S2)) (eS S2).length 0 (0, 0) (by decide); generalize Fl.sumFrom (eS S2) (Fl.wtE (eS S2)) (eS S2).length 0 (0, 0) = z at hy hs; refine ⟨Qix z 4, ?_, ?_⟩
 ·
  unfold Qfk; rw [hy, if_pos rfl]
 ·
  unfold Qix; rw [if_pos ⟨by decide, hs⟩]; have := Int.emod_nonneg (z.1 * 10007 + z.2) (show (4 : Int) ≠ 0 by omega); have := Int.emod_lt_of_pos (z.1 * 10007 + z.2) (show (0 : Int) < 4 by omega); omega
theorem dec_one {L : List SE} {who : Int} (hrev : Qkx 4 L 1 = (who, 0)) (hw : whoB L who = true) : err (Qf8 4 L 1) = 0 := by
 have e1 : wrap64 (wrap64 (3 * 1) - 2) = 1 := by decide +kernel
 have e4 : Qcm 4 = 2 := by decide
 unfold Qf8 Qa5; rw [hrev]; unfold Qfx; dsimp only; rw [if_pos rfl, e1]; unfold whoB at hw
 cases hx : byC L who 1 with
 | none => rw [hx] at hw; cases hw
 | some x =>
  rw [hx] at hw; have h2 := of_decide_eq_true hw; unfold decV resR; dsimp only [err]; rw [if_pos rfl, if_neg (by rw [e4]; omega)]; rfl
theorem Qn3 : Evk (fun k => Gz.f k) true := by
 have hc := four_ok; have h4 := Qn7; generalize L12 = L at hc h4; unfold chkB at hc; simp only [Bool.and_eq_true, beq_iff_eq, decide_eq_true_eq] at hc; obtain ⟨⟨⟨⟨⟨⟨⟨hf, w1⟩, w2⟩, w3⟩, w4⟩, ht⟩, hr⟩, hs⟩ := hc; have hF := Qmb L hf; obtain ⟨who, ho, g1, g2⟩ := open_ok _ hs
 have hrev : Qkx 4 L 1 = (who, 0) := by
  have e4 : Qcm 4 = 2 := by decide
  unfold Qkx; rw [if_neg (by rintro (h | h | h) <;> first | omega | exact absurd h (by decide)), e4, if_neg (by show ¬ (Qa8 L (3 * 1)).length < 2; have e : (3 * 1 : Int) = 3 := rfl; rw [e]; omega)]; exact ho
 have hwho : whoB L who = true := by
  rcases (show who = 1 ∨ who = 2 ∨ who = 3 ∨ who = 4 by omega) with rfl | rfl | rfl | rfl <;> assumption
 have he := dec_one hrev hwho; have hl := Qnc hF 4 0 0 (Qgq hF 4) (by rw [ht]; decide) (by rw [ht]; decide); rw [ht] at hl
 have e : Qks (Qa5 4 L) (Qf8 4 L) (Qco L) 0 (1 : Int).toNat 1 = ([Qij (Qf8 4 L 1)], 1) := by
  show Qks (Qa5 4 L) (Qf8 4 L) (Qco L) 0 (0 + 1) 1 = _; rw [Qks, if_neg (by decide), if_pos he, upV]
 rw [e] at hl; generalize Qf8 4 L 1 = r at hl; refine Evk.of_eq (Evk.bind h4 (Evk.bind hl ?_)) (fun k => by unfold Gz.f; rfl); exact Evk.const (fun k => rfl)
theorem Qhu (l : List SE) (hl : l.length ≤ 1048576) (a b : Int) (Q : Prop) (i : Nat) (hi : i < l.length) (hn : ∃ c, Evk (fun k => Fb.l0 k ((i + 1 : Nat) : Int) a b l) c ∧ (c = true → Q)) : ∀ (n j : Nat), j + n = i → ∃ r : Bool, Evk (fun k => Fb.l1 k (i : Int) (j : Int) a b l) r ∧ (r = true → Q ∧ ∀ (t : Nat) (ht : t < l.length), j ≤ t → t < i → (l[t]).f0.toList ≠ (l[i]).f0.toList)
 | 0, j, h => by
  obtain ⟨c, hc, hq⟩ := hn; exact ⟨c, Evk.step hc (fun k => by rw [Fb.l1, if_neg (by omega), ws i (by omega)]), fun h' => ⟨hq h', fun t ht h1 h2 => by omega⟩⟩
 | n + 1, j, h => by
  have hj : j < l.length := by omega
  by_cases hq : (l[i]).f0.toList = (l[j]).f0.toList
  ·
   exact ⟨false, Evk.step (Evk.ret false) (fun k => by rw [Fb.l1, if_pos (by omega), if_pos (by omega), if_pos (by omega), if_pos (by omega), if_pos (by omega), Qbf l i hi, Qbf l j hj, if_pos hq]), fun h' => (by cases h')⟩
  ·
   obtain ⟨r, h1, h2⟩ := Qhu l hl a b Q i hi hn n (j + 1) (by omega); refine ⟨r, Evk.step h1 (fun k => by rw [Fb.l1, if_pos (by omega), if_pos (by omega), if_pos (by omega), if_pos (by omega), if_pos (by omega), Qbf l i hi, Qbf l j hj, if_neg hq, ws j (by omega)]), fun h' => ⟨(h2 h').1, fun t ht h3 h4 => ?_⟩⟩
   by_cases e : t = j
   ·
    subst e; exact fun h5 => hq h5.symm
   ·
    exact (h2 h').2 t ht (by omega) h4
theorem Qkd (l : List SE) (hl : l.length ≤ 1048576) (a b : Int) : ∀ (n i : Nat), i + n = l.length → ∃ r : Bool, Evk (fun k => Fb.l0 k (i : Int) a b l) r ∧ (r = true → ∀ (p q : Nat) (hp : p < l.length) (hq : q < l.length), p < q → i ≤ q → (l[p]).f0.toList ≠ (l[q]).f0.toList)
 | 0, i, h => ⟨true, Evk.step (Evk.ret true) (fun k => by rw [Fb.l0, if_neg (by omega)]), fun _ p q hp hq h1 h2 => by omega⟩
 | n + 1, i, h => by
  obtain ⟨r, h1, h2⟩ := Qhu l hl a b _ i (by omega) (Qkd l hl a b n (i + 1) (by omega)) i 0 (by omega); refine ⟨r, Evk.step h1 (fun k => by rw [Fb.l0, if_pos (by omega)]; rfl), fun h' p q hp hq h3 h4 => ?_⟩; obtain ⟨q1, q2⟩ := h2 h'
  by_cases e : q = i
  ·
   subst e; exact q2 p hp (Nat.zero_le _) h3
  ·
   exact q1 p q hp hq h3 (by omega)
theorem Qdf (e : Int) : Qnr (Qij (Ql2 e)) := ⟨Nat.zero_le _, fun _ h => (by cases h), Nat.zero_le _⟩
theorem Qfy {l : List SE} (h : ∀ x ∈ l, Qnr x) (a w : Int) : Qnr (Qij (Qa5 a l w)) := by
 unfold Qa5 Qfx; split
 ·
  cases hx : byC l (Qkx a l w).1 (wrap64 (wrap64 (3 * w) - 2)) with
  | some x => exact h x (List.mem_of_find?_eq_some hx)
  | none => exact Qdf 7
 ·
  exact Qdf _
theorem Qof {l : List SE} (h : ∀ x ∈ l, Qnr x) (a w : Int) : Qnr (Qij (Qf8 a l w)) := by
 have h1 := Qfy h a w; unfold Qf8; generalize Qa5 a l w = r at h1; unfold decV; split
 ·
  split
  ·
   exact Qdf _
  ·
   exact h1
 ·
  exact Qdf _
theorem TuskChains : Fy.Pure := by
 intro x0 a1 hx ha hb
 have hbx : (x0.f2.map B32).sum ≤ 1048576 := by
  have e : B24 x0 = 1 + 1 + ((x0.f2.map B32).sum + 1) + 1 := rfl; omega
 have hgl : x0.f2.length ≤ 1048576 := Nat.le_trans (Qkq x0.f2) hbx; have hok := okX_of x0.f2 hgl hbx hx.2.2.2
 have hwf : ∀ x ∈ x0.f2, -9223372036854775808 ≤ x.f1.f1 := fun x h => (wfI (hx.2.2.2 x h).2.2.1).1
 have hg : ∀ x ∈ x0.f2, Qnr x := fun x h => fine_of x (hx.2.2.2 x h)
 refine Evk.get ?_; obtain ⟨s, hs1, hs2⟩ := Qh1 x0.f2 hgl x0.f0 x0.f1 x0.f2.length 0 (by omega); obtain ⟨u, hu1, hu2⟩ := Qkd x0.f2 hgl x0.f0 x0.f1 x0.f2.length 0 (by omega); generalize hA : x0.f0 = A at hs1 hu1 ⊢; generalize hC : x0.f1 = C at hs1 hu1 ⊢; generalize hL : x0.f2 = L at hs1 hs2 hg hbx hgl hu1 hu2 hok hwf ⊢; have hout : Evk (fun k => Fy.j0 k a1 true true A C L) true := Evk.step (Evk.ret true) (fun k => by rw [Fy.j0, if_pos rfl])
 have key : s = true → u = true → Evk (fun k => Fy.j0 k a1 true false A C L) true := fun hs hu => by
  obtain ⟨f1, f2⟩ := hs2 hs
  have hro : ∀ x ∈ L, x.f1.f1 ≤ 60 := fun x hx => by
   obtain ⟨p, hp, rfl⟩ := List.mem_iff_getElem.1 hx; exact f2 p hp (by omega)
  have hf : Qa4 L := ⟨f1, hok, fun x hx => ⟨hwf x hx, hro x hx⟩, fun x hx => by have := Qni L x hx; omega⟩; have hd : L.Pairwise (fun x y => x.f0.toList ≠ y.f0.toList) := List.pairwise_iff_getElem.2 (fun i j hi hj hij => hu2 hu i j hi hj hij (Nat.zero_le _)); obtain ⟨t0, t1⟩ := topS_in L hro 0 (by omega) (by omega); have e1 := Qnc hf A C a1 (Qgq hf A) t0 t1; have e2 := Qow hf hd A C a1 (Qgq hf A) t0 t1; obtain ⟨q1, q2⟩ := Qne (Qa5 A L) (Qf8 A L) (Qco L) a1 Qnr (Qfy hg A) (Qof hg A) (Qeo 0 L).toNat (Qeo 0 L); generalize Qks (Qa5 A L) (Qf8 A L) (Qco L) a1 (Qeo 0 L).toNat (Qeo 0 L) = r at e1 e2 q1 q2; have e5 := Qlm r.1 (by omega) q1; refine Qbp ?_; have c0 : (false = true) = False := by simp
  simp only [Fy.j0, c0, if_false]; refine Evk.bind e1 (Evk.bind e2 (Evk.bind e5 ?_)); refine Evk.of_eq ?_ (fun k => if_pos rfl); rw [beq_self_eq_true]; exact Evk.ret true
 unfold Fy.f; refine Evk.bind Qn3 (Evk.bind (Evk.of_eq hs1 (fun k => by unfold G9.f; rfl)) (Evk.bind (Evk.of_eq hu1 (fun k => by unfold Fb.f; rfl)) ?_))
 cases s with
 | false => exact Evk.of_eq hout (fun k => by rw [if_pos rfl, if_neg (by decide)])
 | true =>
  cases u with
  | false => exact Evk.of_eq hout (fun k => by rw [if_pos rfl, if_pos rfl]; rfl)
  | true => exact Evk.of_eq (key rfl rfl) (fun k => by rw [if_pos rfl, if_pos rfl]; rfl)
end Go.Proofs.YtopijobdblfhoaaGreat.Pure
