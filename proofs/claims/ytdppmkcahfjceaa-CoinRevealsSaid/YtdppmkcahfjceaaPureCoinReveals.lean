/- Proved: the pure half of the law CoinReveals of chapter 12 (what the walked program computes is 'true'). Conditions: those of its row, no other. -/
import Derived.Test.YtdppmkcahfjceaaArgCoinReveals
import Derived.Test.YtdppmkcahfjceaaVCoinRevealsSz
import Derived.Test.YtdppmkcahfjceaaVCoinRevealsDl
import Derived.IntWalk
namespace Go.Proofs.Ytdppmkcahfjceaa.Pure
open Go.IntWalk Go.RowKit Go.Proofs.Ytdppmkcahfjceaa.PCoinReveals Go.Proofs.YtdppmkcahfjceaaW.PrintWords Go.Proofs.YtdppmkcahfjceaaW.PrintLast
set_option linter.unusedSimpArgs false
set_option linter.unusedVariables false

def mayC (n : Int) : Bool := decide (4 ≤ n ∧ n ≤ 64 ∧ n % 3 = 1)
theorem c_may (n : Int) : seats_May.f n = some (mayC n) := by
  unfold seats_May.f mayC
  by_cases h1 : n ≥ 4
  · by_cases h2 : n ≤ 64
    · rw [if_pos h1, if_pos h2, Int.tmod_eq_emod_of_nonneg (by omega)]
      congr 1
      rw [Bool.eq_iff_iff, beq_iff_eq, decide_eq_true_iff]
      omega
    · rw [if_pos h1, if_neg h2, decide_eq_false (by omega)]
  · rw [if_neg h1, decide_eq_false (by omega)]
theorem mayC_of {n : Int} (h : mayC n = true) : 4 ≤ n ∧ n ≤ 64 ∧ n % 3 = 1 := of_decide_eq_true h
def weakC (n : Int) : Nat := if mayC n = true then ((n - 1) / 3).toNat + 1 else 0
theorem weakC_le (n : Int) : weakC n ≤ 22 := by
  unfold weakC
  by_cases h : mayC n = true
  · have := mayC_of h; rw [if_pos h]; omega
  · rw [if_neg h]; omega
theorem weakC_pos {n : Int} (h : mayC n = true) : 2 ≤ weakC n := by
  have := mayC_of h
  unfold weakC
  rw [if_pos h]
  omega
theorem c_weak (n : Int) : seats_Weak.f n = some (weakC n : Int) := by
  unfold seats_Weak.f seats_Faults.f weakC
  rw [c_may]
  simp only [Option.bind_some]
  by_cases h : mayC n = true
  · have := mayC_of h
    rw [if_pos h, if_pos h, if_pos h, Option.bind_some, wrap64_in (n - 1) (by omega), Int.tdiv_eq_ediv_of_nonneg (by omega), wrap64_in ((n - 1) / 3) (by omega), wrap64_in _ (by omega)]
    congr 1
    omega
  · rw [if_neg h, if_neg h]
    rfl
theorem c_gm (a b : Int) : gauss_May.f a b = some (decide (Gm.Ok (a, b))) := by
  have e : Gm.Ok (a, b) ↔ 0 ≤ a ∧ a < 10007 ∧ 0 ≤ b ∧ b < 10007 := Iff.rfl
  unfold gauss_May.f
  by_cases h1 : a ≥ 0
  · by_cases h2 : a < 10007
    · by_cases h3 : b ≥ 0
      · rw [if_pos h1, if_pos h2, if_pos h3, Option.some.injEq, decide_eq_decide, e]
        omega
      · rw [if_pos h1, if_pos h2, if_neg h3, decide_eq_false (fun h => by rw [e] at h; omega)]
    · rw [if_pos h1, if_neg h2, decide_eq_false (fun h => by rw [e] at h; omega)]
  · rw [if_neg h1, decide_eq_false (fun h => by rw [e] at h; omega)]
def leadC (x : Gm.E) (n : Int) : Int := if mayC n = true ∧ Gm.Ok x then 1 + (x.1 * 10007 + x.2) % n else 0
theorem lead_sum (a b n : Int) (hn : mayC n = true) (h : Gm.Ok (a, b)) : wrap64 (1 + Int.tmod (wrap64 (wrap64 (a * 10007) + b)) n) = 1 + (a * 10007 + b) % n := by
  have hm := mayC_of hn
  obtain ⟨h1, h2, h3, h4⟩ : 0 ≤ a ∧ a < 10007 ∧ 0 ≤ b ∧ b < 10007 := h
  have m1 := Int.emod_nonneg (a * 10007 + b) (show n ≠ 0 by omega)
  have m2 := Int.emod_lt_of_pos (a * 10007 + b) (show 0 < n by omega)
  rw [wrap64_in (a * 10007) (by omega), wrap64_in (a * 10007 + b) (by omega), Int.tmod_eq_emod_of_nonneg (by omega), wrap64_in _ (by omega)]
theorem c_lead (a b n : Int) : coin_Leader.f a b n = some (leadC (a, b) n) := by
  unfold coin_Leader.f leadC
  rw [c_may, Option.bind_some]
  by_cases hn : mayC n = true
  · have hm := mayC_of hn
    rw [if_pos hn, c_gm, Option.bind_some]
    by_cases h : Gm.Ok (a, b)
    · rw [if_pos (decide_eq_true h), if_neg (by omega), if_pos ⟨hn, h⟩, lead_sum a b n hn h]
    · rw [if_neg (by simpa using h), if_neg (fun x => h x.2)]
  · rw [if_neg hn, if_neg (fun x => hn x.1)]
def dealC (tape : ByteArray) (wave n : Int) : List Gm.E := if wave < 1 ∨ mayC n = false then [] else Sa.dealL tape wave.toNat (weakC n)
def toE (l : List Gm.E) : List S23 := l.map fun p => (⟨p.1, p.2⟩ : S23)
theorem c_deal (tape : ByteArray) (wave n : Int) (ht : tape.size ≤ 1048576) (hw : wave ≤ 9223372036854775807) : coin_Deal.f tape wave n = some (toE (dealC tape wave n)) := by
  unfold coin_Deal.f dealC
  by_cases h1 : wave < 1
  · rw [if_pos h1, if_pos (.inl h1)]
    rfl
  · rw [if_neg h1, c_may, Option.bind_some]
    cases hn : mayC n with
    | false =>
      rw [if_neg (by decide), if_pos (.inr rfl)]
      rfl
    | true =>
      have := weakC_le n
      rw [if_pos rfl, c_weak, Option.bind_some, if_pos ⟨by omega, by omega, by omega, hw⟩, if_neg (by simp; omega), Int.toNat_natCast]
      rfl
theorem dealC_length (tape : ByteArray) (wave n : Int) (h1 : ¬ wave < 1) (hn : mayC n = true) : (dealC tape wave n).length = weakC n := by
  unfold dealC
  rw [if_neg (by simp [hn]; omega), Sa.dealL_length]
theorem num4_ok (d : ByteArray) (i : Nat) : 0 ≤ Sa.num4 d i ∧ Sa.num4 d i < 10007 := by
  unfold Sa.num4
  omega
theorem dealC_ok (tape : ByteArray) (wave n : Int) : ∀ c ∈ dealC tape wave n, Gm.Ok c := by
  intro c hc
  unfold dealC at hc
  split at hc
  · cases hc
  · unfold Sa.dealL at hc
    obtain ⟨k, _, rfl⟩ := List.mem_map.1 hc
    exact ⟨(num4_ok _ _).1, (num4_ok _ _).2, (num4_ok _ _).1, (num4_ok _ _).2⟩
theorem wfI {n : Int} (h : (Lit.int .i64 n).wf = true) : -9223372036854775808 ≤ n ∧ n ≤ 9223372036854775807 := by
  simp [Lit.wf, IntKind.min, IntKind.max, IntKind.signed, IntKind.bits] at h
  omega
theorem shown : selvedgelaw12_shown.f = some true := by
  unfold selvedgelaw12_shown.f
  have e1 : mayC 4 = true := by decide
  have l1 : leadC (0, 0) 4 = 1 := by decide
  have l2 : leadC (5, 2) 4 = 2 := by decide
  rw [c_deal _ _ _ (by decide) (by decide), Option.bind_some, c_lead, Option.bind_some, l1, if_pos rfl, c_lead, Option.bind_some, l2, if_pos rfl]
  unfold toE
  rw [List.length_map, dealC_length _ _ _ (by decide) e1]
  rfl
theorem c_rmay (n : Int) : selvedgeref05_May.f n = some (mayC n) := by
  unfold selvedgeref05_May.f mayC
  by_cases h0 : n = 4
  · rw [if_pos h0, decide_eq_true (by omega)]
  · by_cases h1 : n > 4
    · by_cases h2 : n ≤ 64
      · rw [if_neg h0, if_pos h1, if_pos h2, wrap64_in _ (by omega), Int.tmod_eq_emod_of_nonneg (by omega)]
        congr 1
        rw [Bool.eq_iff_iff, beq_iff_eq, decide_eq_true_iff]
        omega
      · rw [if_neg h0, if_pos h1, if_neg h2, decide_eq_false (by omega)]
    · rw [if_neg h0, if_neg h1, decide_eq_false (by omega)]
theorem c_rweak (n : Int) : selvedgeref05_Weak.f n = some (weakC n : Int) := by
  unfold selvedgeref05_Weak.f weakC
  rw [c_rmay, Option.bind_some]
  by_cases h : mayC n = true
  · have := mayC_of h
    rw [if_pos h, if_pos h, wrap64_in (n - 1) (by omega), Int.tdiv_eq_ediv_of_nonneg (by omega), wrap64_in ((n - 1) / 3) (by omega), wrap64_in _ (by omega)]
    congr 1
    omega
  · rw [if_neg h, if_neg h]
    rfl
theorem c_rgm (a b : Int) : selvedgeref03_May.f a b = some (decide (Gm.Ok (a, b))) := by
  have e : Gm.Ok (a, b) ↔ 0 ≤ a ∧ a < 10007 ∧ 0 ≤ b ∧ b < 10007 := Iff.rfl
  unfold selvedgeref03_May.f
  by_cases h1 : a ≥ 0
  · by_cases h2 : a < 10007
    · by_cases h3 : b ≥ 0
      · rw [if_pos h1, if_pos h2, if_pos h3, Option.some.injEq, decide_eq_decide, e]
        omega
      · rw [if_pos h1, if_pos h2, if_neg h3, decide_eq_false (fun h => by rw [e] at h; omega)]
    · rw [if_pos h1, if_neg h2, decide_eq_false (fun h => by rw [e] at h; omega)]
  · rw [if_neg h1, decide_eq_false (fun h => by rw [e] at h; omega)]
theorem c_rlead (a b n : Int) : selvedgeref12_Leader.f a b n = some (leadC (a, b) n) := by
  unfold selvedgeref12_Leader.f leadC
  rw [c_rmay, Option.bind_some, c_rgm, Option.bind_some]
  by_cases hn : mayC n = true
  · have hm := mayC_of hn
    rw [if_pos hn]
    by_cases h : Gm.Ok (a, b)
    · rw [if_pos (decide_eq_true h), if_neg (by omega), if_pos ⟨hn, h⟩, lead_sum a b n hn h]
    · rw [if_neg (by simpa using h), if_neg (fun x => h x.2)]
  · rw [if_neg hn, if_neg (fun x => hn x.1)]
def shC (x : S59) : S104 := ⟨x.f1.f0, ⟨x.f1.f4.f0, x.f1.f4.f1⟩⟩
def roundC (L : List S59) (r : Int) : List S59 := L.filter fun x => decide (x.f1.f1 = r)
theorem roundC_len (L : List S59) (r : Int) : (roundC L r).length ≤ L.length := List.length_filter_le _ _
theorem roundC_snoc (L : List S59) (r : Int) (x : S59) : roundC (L ++ [x]) r = if x.f1.f1 = r then roundC L r ++ [x] else roundC L r := by
  unfold roundC
  by_cases h : x.f1.f1 = r <;> simp [List.filter_append, h]
theorem rd59 (L : List S59) {i : Nat} (h : i < L.length) : rd_T59 L (i : Int) = L[i] := by
  unfold rd_T59
  rw [Int.toNat_natCast, List.getD_eq_getElem?_getD, List.getElem?_eq_getElem h]
  rfl
theorem c_round_l (L : List S59) (r : Int) (hl : L.length ≤ 1000000) : ∀ (m i : Nat), i + m = L.length → Fl.Ev (fun k => dag_Round.l0 k r (roundC (L.take i) r) L (L.length : Int) (i : Int)) (roundC L r)
  | 0, i, hi => by
    refine Fl.Ev.step (g := fun _ => some (roundC L r)) (Fl.Ev.const fun _ => rfl) fun k => ?_
    rw [dag_Round.l0, if_neg (by omega), List.take_of_length_le (by omega)]
  | m + 1, i, hi => by
    have hlt : i < L.length := by omega
    have ih := c_round_l L r hl m (i + 1) (by omega)
    have w1 : wrap64 ((i : Int) + 1) = ((i + 1 : Nat) : Int) := by rw [wrap64_in _ (by omega)]; omega
    rw [List.take_succ_eq_append_getElem hlt, roundC_snoc] at ih
    refine ih.step fun k => ?_
    rw [dag_Round.l0, if_pos (by omega), if_pos (by omega), if_pos (by omega), rd59 L hlt, w1]
    by_cases h : L[i].f1.f1 = r
    · rw [if_pos h, if_pos h, if_pos (by have := roundC_len (L.take i) r; rw [List.length_take] at this; omega)]
    · rw [if_neg h, if_neg h]
theorem c_round (L : List S59) (n low r : Int) (hl : L.length ≤ 1000000) : Fl.Ev (fun k => dag_Round.f k n low L r) (roundC L r) :=
  (c_round_l L r hl L.length 0 (by omega)).of_eq fun k => by unfold dag_Round.f; rfl
def openC (s : List S104) (n : Int) : Int × Int := if (Fl.openE (eS s) (Fl.wtE (eS s))).2 = 0 then (leadC (Fl.openE (eS s) (Fl.wtE (eS s))).1 n, 0) else (0, (Fl.openE (eS s) (Fl.wtE (eS s))).2)
def revC (n : Int) (L : List S59) (wave : Int) : Int × Int :=
  if wave < 1 ∨ 1048576 < wave ∨ mayC n = false then (0, 1)
  else if (roundC L (3 * wave)).length < weakC n then (0, 12)
  else openC (((roundC L (3 * wave)).take (weakC n)).map shC) n
theorem c_rev_l (Y L : List S59) (n low : Int) (hl : Y.length ≤ 1000000) : ∀ (m i : Nat), i + m = Y.length → Fl.Ev (fun k => coin_Reveal.l0 k ((Y.take i).map shC) Y (Y.length : Int) (i : Int) n low L) (openC (Y.map shC) n)
  | 0, i, hi => by
    refine Fl.Ev.step (g := fun _ => some (openC (Y.map shC) n)) (Fl.Ev.const fun _ => rfl) fun k => ?_
    rw [coin_Reveal.l0, if_neg (by omega), List.take_of_length_le (by omega)]
    unfold share_Open.f openC
    rw [Option.bind_some]
    simp only
    by_cases h : (Fl.openE (eS (Y.map shC)) (Fl.wtE (eS (Y.map shC)))).2 = 0
    · rw [if_pos h, if_pos h, c_lead]
      rfl
    · rw [if_neg h, if_neg h]
  | m + 1, i, hi => by
    have hlt : i < Y.length := by omega
    have ih := c_rev_l Y L n low hl m (i + 1) (by omega)
    have w1 : wrap64 ((i : Int) + 1) = ((i + 1 : Nat) : Int) := by rw [wrap64_in _ (by omega)]; omega
    rw [List.take_succ_eq_append_getElem hlt, List.map_append] at ih
    refine ih.step fun k => ?_
    rw [coin_Reveal.l0, if_pos (by omega), if_pos (by omega), if_pos (by omega), if_pos (by rw [List.length_map, List.length_take]; omega), rd59 Y hlt, w1]
    rfl
theorem c_rev (L : List S59) (n low wave : Int) (hl : L.length ≤ 1000000) : Fl.Ev (fun k => coin_Reveal.f k n low L wave) (revC n L wave) := by
  have hno : Fl.Ev (fun k => coin_Reveal.j0 k wave true n low L) (0, 1) := Fl.Ev.step (g := fun _ => some (0, 1)) (Fl.Ev.const fun _ => rfl) fun k => by rw [coin_Reveal.j0, if_pos rfl]
  unfold revC
  by_cases h1 : wave < 1
  · rw [if_pos (.inl h1)]
    exact hno.of_eq fun k => by unfold coin_Reveal.f; rw [if_pos h1]
  · by_cases h2 : 1048576 < wave
    · rw [if_pos (.inr (.inl h2))]
      exact hno.of_eq fun k => by unfold coin_Reveal.f; rw [if_neg h1, if_pos h2]
    · cases hn : mayC n with
      | false =>
        rw [if_pos (.inr (.inr rfl))]
        exact hno.of_eq fun k => by unfold coin_Reveal.f; rw [if_neg h1, if_neg h2, c_may, Option.bind_some, hn]; rfl
      | true =>
        rw [if_neg (by rintro (h | h | h) <;> first | omega | cases h)]
        have hr := c_round L n low (3 * wave) hl
        have hj : Fl.Ev (fun k => coin_Reveal.j0 k wave false n low L) (if (roundC L (3 * wave)).length < weakC n then (0, 12) else openC (((roundC L (3 * wave)).take (weakC n)).map shC) n) := by
          refine Fl.Ev.step (hr.bind (g := fun k t142 => ((seats_Weak.f n).bind fun t145 => (if (t142.length : Int) < t145 then (some (0, 12)) else ((seats_Weak.f n).bind fun t146 => (if 0 ≤ t146 then (if t146 ≤ (t142.length : Int) then ((some (t142.take (t146 : Int).toNat : List (S59))).bind fun y147 => (coin_Reveal.l0 k ([] : List (S104)) y147 (y147.length : Int) 0 n low L)) else (none)) else (none)))))) ?_) fun k => ?_
          · by_cases h3 : (roundC L (3 * wave)).length < weakC n
            · rw [if_pos h3]
              exact Fl.Ev.const fun k => by rw [c_weak, Option.bind_some, if_pos (by omega)]
            · rw [if_neg h3]
              have hR := roundC_len L (3 * wave)
              refine (c_rev_l ((roundC L (3 * wave)).take (weakC n)) L n low (by rw [List.length_take]; omega) _ 0 (Nat.zero_add _)).of_eq fun k => ?_
              rw [c_weak, Option.bind_some, if_neg (by omega), Option.bind_some, if_pos (by omega), if_pos (by omega), Option.bind_some, Int.toNat_natCast]
              rfl
          · rw [coin_Reveal.j0, if_neg (by decide), wrap64_in _ (by omega)]
        exact hj.of_eq fun k => by unfold coin_Reveal.f; rw [if_neg h1, if_neg h2, c_may, Option.bind_some, hn]; rfl
theorem rmay (a b : Int) : selvedgeref03_May.f a b = some (decide (Gm.Ok (a, b))) := by
  have e : Gm.Ok (a, b) ↔ 0 ≤ a ∧ a < 10007 ∧ 0 ≤ b ∧ b < 10007 := Iff.rfl
  unfold selvedgeref03_May.f
  by_cases h1 : a ≥ 0
  · by_cases h2 : a < 10007
    · by_cases h3 : b ≥ 0
      · rw [if_pos h1, if_pos h2, if_pos h3, Option.some.injEq, decide_eq_decide, e]
        omega
      · rw [if_pos h1, if_pos h2, if_neg h3, decide_eq_false (fun h => by rw [e] at h; omega)]
    · rw [if_pos h1, if_neg h2, decide_eq_false (fun h => by rw [e] at h; omega)]
  · rw [if_neg h1, decide_eq_false (fun h => by rw [e] at h; omega)]
theorem bp (a c : Int) (h0 : 0 ≤ a) (h1 : a < 10007) (h2 : 0 ≤ c) (h3 : c < 10007) : 0 ≤ a * c ∧ a * c ≤ 100120036 :=
  ⟨Int.mul_nonneg h0 h2, Int.le_trans (Int.mul_le_mul (show a ≤ 10006 by omega) (show c ≤ 10006 by omega) h2 (by omega)) (by decide)⟩
theorem rmulF (a b c d : Int) (h : Gm.Ok (a, b)) (h2 : Gm.Ok (c, d)) : selvedgeref03_Mul.f a b c d = some (Gm.mul (a, b) (c, d)) := by
  have p1 := bp a c h.1 h.2.1 h2.1 h2.2.1
  have p2 := bp b d h.2.2.1 h.2.2.2 h2.2.2.1 h2.2.2.2
  have p3 := bp a d h.1 h.2.1 h2.2.2.1 h2.2.2.2
  have p4 := bp b c h.2.2.1 h.2.2.2 h2.1 h2.2.1
  unfold selvedgeref03_Mul.f Gm.mul Gm.gmul Gm.red
  rw [rmay, rmay]
  simp only [Option.bind_some, h, h2, decide_true, if_true]
  generalize a * c = u at *
  generalize b * d = v at *
  generalize a * d = s at *
  generalize b * c = t at *
  rw [wrap64_in u (by omega), wrap64_in v (by omega), wrap64_in s (by omega), wrap64_in t (by omega), wrap64_in (u + 100140049) (by omega), wrap64_in _ (by omega), wrap64_in _ (by omega), Int.tmod_eq_emod_of_nonneg (by omega), Int.tmod_eq_emod_of_nonneg (by omega)]
  congr 2
  omega
theorem rmulN (a b c d : Int) (h : ¬ (Gm.Ok (a, b) ∧ Gm.Ok (c, d))) : selvedgeref03_Mul.f a b c d = some (0, 0) := by
  unfold selvedgeref03_Mul.f
  rw [rmay, rmay]
  simp only [Option.bind_some, decide_eq_true_eq]
  by_cases h1 : Gm.Ok (a, b)
  · rw [if_pos h1, if_neg (fun h2 => h ⟨h1, h2⟩)]
  · rw [if_neg h1]
theorem raddF (a b c d : Int) (h : Gm.Ok (a, b)) (h2 : Gm.Ok (c, d)) : selvedgeref03_Add.f a b c d = some (Gm.add (a, b) (c, d)) := by
  have h1' := h
  have h2' := h2
  unfold Gm.Ok at h1' h2'
  simp only at h1' h2'
  unfold selvedgeref03_Add.f Gm.add Gm.gadd Gm.red
  rw [rmay, rmay]
  simp only [Option.bind_some, h, h2, decide_true, if_true]
  rw [wrap64_in _ (by omega), wrap64_in _ (by omega), Int.tmod_eq_emod_of_nonneg (by omega), Int.tmod_eq_emod_of_nonneg (by omega)]
theorem raddN (a b c d : Int) (h : ¬ (Gm.Ok (a, b) ∧ Gm.Ok (c, d))) : selvedgeref03_Add.f a b c d = some (0, 0) := by
  unfold selvedgeref03_Add.f
  rw [rmay, rmay]
  simp only [Option.bind_some, decide_eq_true_eq]
  by_cases h1 : Gm.Ok (a, b)
  · rw [if_pos h1, if_neg (fun h2 => h ⟨h1, h2⟩)]
  · rw [if_neg h1]
theorem rsubF (a b c d : Int) (h : Gm.Ok (a, b)) (h2 : Gm.Ok (c, d)) : selvedgeref03_Sub.f a b c d = some (Gm.sub (a, b) (c, d)) := by
  have h1' := h
  have h2' := h2
  unfold Gm.Ok at h1' h2'
  simp only at h1' h2'
  unfold selvedgeref03_Sub.f Gm.sub Gm.gsub Gm.red
  rw [rmay, rmay]
  simp only [Option.bind_some, h, h2, decide_true, if_true]
  rw [wrap64_in (a + 10007) (by omega), wrap64_in (b + 10007) (by omega), wrap64_in _ (by omega), wrap64_in _ (by omega), Int.tmod_eq_emod_of_nonneg (by omega), Int.tmod_eq_emod_of_nonneg (by omega)]
  congr 2 <;> omega
theorem rsubN (a b c d : Int) (h : ¬ (Gm.Ok (a, b) ∧ Gm.Ok (c, d))) : selvedgeref03_Sub.f a b c d = some (0, 0) := by
  unfold selvedgeref03_Sub.f
  rw [rmay, rmay]
  simp only [Option.bind_some, decide_eq_true_eq]
  by_cases h1 : Gm.Ok (a, b)
  · rw [if_pos h1, if_neg (fun h2 => h ⟨h1, h2⟩)]
  · rw [if_neg h1]
theorem qmul (x y : Gm.E) : selvedgeref03_Mul.f x.1 x.2 y.1 y.2 = some (Fl.opE Gm.mul x y) := by
  unfold Fl.opE
  by_cases h : Gm.Ok x ∧ Gm.Ok y
  · rw [if_pos h]; exact rmulF _ _ _ _ h.1 h.2
  · rw [if_neg h]; exact rmulN _ _ _ _ h
theorem qadd (x y : Gm.E) : selvedgeref03_Add.f x.1 x.2 y.1 y.2 = some (Fl.opE Gm.add x y) := by
  unfold Fl.opE
  by_cases h : Gm.Ok x ∧ Gm.Ok y
  · rw [if_pos h]; exact raddF _ _ _ _ h.1 h.2
  · rw [if_neg h]; exact raddN _ _ _ _ h
theorem qsub (x y : Gm.E) : selvedgeref03_Sub.f x.1 x.2 y.1 y.2 = some (Fl.opE Gm.sub x y) := by
  unfold Fl.opE
  by_cases h : Gm.Ok x ∧ Gm.Ok y
  · rw [if_pos h]; exact rsubF _ _ _ _ h.1 h.2
  · rw [if_neg h]; exact rsubN _ _ _ _ h
theorem rnormF (a b : Int) (h : Gm.Ok (a, b)) : selvedgeref03_Norm.f a b = some (Gm.norm (a, b)) := by
  have p1 := bp a a h.1 h.2.1 h.1 h.2.1
  have p2 := bp b b h.2.2.1 h.2.2.2 h.2.2.1 h.2.2.2
  unfold selvedgeref03_Norm.f Gm.norm
  rw [rmay]
  simp only [Option.bind_some, h, decide_true, if_true]
  rw [wrap64_in (a * a) (by omega), wrap64_in (b * b) (by omega), wrap64_in _ (by omega), Int.tmod_eq_emod_of_nonneg (by omega)]
theorem rnormN (a b : Int) (h : ¬ Gm.Ok (a, b)) : selvedgeref03_Norm.f a b = some 0 := by
  unfold selvedgeref03_Norm.f
  rw [rmay, Option.bind_some, if_neg (by simpa using h)]
theorem pm (x : Int) (n : Nat) : (x % 10007) ^ n % 10007 = x ^ n % 10007 := by
  induction n with
  | zero => simp
  | succ n ih => rw [Int.pow_succ, Int.pow_succ, Int.mul_emod, ih, Int.emod_emod_of_dvd _ (Int.dvd_refl _), ← Int.mul_emod]
def QQ : Nat := 10005
theorem wl (m : Nat) : ∀ (k : Nat) (x y : Int), m < 2 ^ k → m ≤ 10005 → 0 ≤ x → x < 10007 → 0 ≤ y → y < 10007 → selvedgeref03_whole.l0 (k + 1) x y m = some (y * x ^ m % 10007) := by
  induction m using Nat.strongRecOn with
  | _ m ih =>
    intro k x y hk hm hx hx2 hy hy2
    rw [selvedgeref03_whole.l0]
    by_cases h0 : m = 0
    · subst h0
      rw [if_neg (by decide), Int.pow_zero, Int.mul_one, Int.emod_eq_of_lt hy hy2]
    · rw [if_pos (by omega)]
      have p1 := bp x x hx hx2 hx hx2
      have p2 := bp y x hy hy2 hx hx2
      have e1 : Int.tdiv (m : Int) 2 = ((m / 2 : Nat) : Int) := by rw [Int.tdiv_eq_ediv_of_nonneg (by omega)]; omega
      have e2 : wrap64 ((m / 2 : Nat) : Int) = ((m / 2 : Nat) : Int) := wrap64_in _ (by omega)
      have e3 : Int.tmod (m : Int) 2 = ((m % 2 : Nat) : Int) := by rw [Int.tmod_eq_emod_of_nonneg (by omega)]; omega
      obtain ⟨k', rfl⟩ : ∃ k', k = k' + 1 := ⟨k - 1, by
        have : k ≠ 0 := by rintro rfl; simp at hk; omega
        omega⟩
      have hk' : m / 2 < 2 ^ k' := by rw [Nat.pow_succ] at hk; omega
      have sq : (x * x % 10007) ^ (m / 2) % 10007 = x ^ (2 * (m / 2)) % 10007 := by
        rw [Int.pow_mul, Int.pow_succ, Int.pow_succ, Int.pow_zero, Int.one_mul, pm]
      rw [e1, e2, e3, wrap64_in (x * x) (by omega), wrap64_in (y * x) (by omega), Int.tmod_eq_emod_of_nonneg p1.1, Int.tmod_eq_emod_of_nonneg p2.1]
      by_cases hodd : m % 2 = 1
      · rw [if_pos (by omega)]
        refine (ih (m / 2) (by omega) k' _ _ hk' (by omega) (by omega) (by omega) (by omega) (by omega)).trans ?_
        have e : x ^ m = x * x ^ (2 * (m / 2)) := by
          have e : m = 2 * (m / 2) + 1 := by omega
          have e2 : x ^ m = x ^ (2 * (m / 2) + 1) := congrArg (fun n => x ^ n) e
          rw [e2, Int.pow_succ, Int.mul_comm]
        rw [e, ← Int.mul_assoc, Int.mul_emod, sq, ← Int.mul_emod, Int.mul_emod, Int.emod_emod_of_dvd _ (Int.dvd_refl _), ← Int.mul_emod]
      · rw [if_neg (by omega)]
        refine (ih (m / 2) (by omega) k' _ _ hk' (by omega) (by omega) (by omega) hy hy2).trans ?_
        have e : m = 2 * (m / 2) := by omega
        have e' : x ^ m = x ^ (2 * (m / 2)) := congrArg (fun n => x ^ n) e
        rw [e', Int.mul_emod, sq, ← Int.mul_emod]
theorem whole (k : Nat) (n : Int) (h0 : 0 ≤ n) (h1 : n < 10007) : selvedgeref03_whole.f (k + 15) n = some (n ^ QQ % 10007) := by
  unfold selvedgeref03_whole.f
  refine (wl QQ (k + 14) n 1 (Nat.lt_of_lt_of_le (by decide : QQ < 2 ^ 14) (Nat.pow_le_pow_right (by decide) (by omega))) (Nat.le_refl _) h0 h1 (by decide) (by decide)).trans ?_
  rw [Int.one_mul]
theorem norm_inv {x : Gm.E} (h : Gm.Ok x) (h0 : x ≠ (0, 0)) : Gm.norm x * (Gm.norm x ^ QQ % 10007) % 10007 = 1 := by
  have hn : Gm.norm x % 10007 ≠ 0 := by
    intro e
    refine h0 (Gm.norm_zero h ?_)
    unfold Gm.norm at e ⊢
    omega
  have := Gm.fermat_one hn
  have e : Gm.norm x ^ 10006 = Gm.norm x * Gm.norm x ^ QQ := by
    rw [show (10006 : Nat) = QQ + 1 from rfl, Int.pow_succ, Int.mul_comm]
  rw [e] at this
  rw [Int.mul_emod, Int.emod_emod_of_dvd _ (Int.dvd_refl _), ← Int.mul_emod]
  omega
theorem j0T (k : Nat) (a b : Int) : selvedgeref03_Inv.j0 (k + 1) true a b = some (0, 0, 1) := by rw [selvedgeref03_Inv.j0, if_pos rfl]
theorem rinv (a b : Int) (h : Gm.Ok (a, b)) (h0 : (a, b) ≠ ((0, 0) : Gm.E)) : selvedgeref03_Inv.j0 16 false a b = some ((Gm.pow (a, b) Gm.NN).1, (Gm.pow (a, b) Gm.NN).2, 0) := by
  have h' := h
  unfold Gm.Ok at h'
  simp only at h'
  have bn : 0 ≤ Gm.norm (a, b) ∧ Gm.norm (a, b) < 10007 := by unfold Gm.norm; omega
  rw [selvedgeref03_Inv.j0, if_neg (by decide), rnormF a b h, Option.bind_some, whole 0 _ bn.1 bn.2, Option.bind_some]
  have ni := norm_inv h h0
  generalize hq : Gm.norm (a, b) ^ QQ % 10007 = q at *
  have bq : 0 ≤ q ∧ q < 10007 := by omega
  have p1 := bp a q h'.1 h'.2.1 bq.1 bq.2
  have e0 : Int.tmod (wrap64 (10007 - b)) 10007 = -b % 10007 := by
    rw [wrap64_in _ (by omega), Int.tmod_eq_emod_of_nonneg (by omega)]; omega
  rw [e0]
  have p2 := bp (-b % 10007) q (by omega) (by omega) bq.1 bq.2
  rw [wrap64_in (a * q) (by omega), wrap64_in _ (by omega), Int.tmod_eq_emod_of_nonneg p1.1, Int.tmod_eq_emod_of_nonneg p2.1]
  have e : ((a * q % 10007, -b % 10007 * q % 10007) : Gm.E) = Gm.mul (Gm.conj (a, b)) (q, 0) := by
    unfold Gm.mul Gm.gmul Gm.conj Gm.red
    simp only [Int.mul_zero, Int.sub_zero, Int.zero_add]
    rw [Int.emod_eq_of_lt h'.1 h'.2.1]
  have e2 : Gm.mul (a, b) (Gm.mul (Gm.conj (a, b)) (q, 0)) = (1, 0) := by
    rw [← Gm.mul_assoc, Gm.mul_conj]
    unfold Gm.mul Gm.gmul Gm.red
    simp only [Int.mul_zero, Int.zero_mul, Int.sub_zero, Int.add_zero]
    rw [ni]
    rfl
  have e3 := Gm.inv_unique (Gm.pow_ok (a, b) Gm.NN) (Gm.mul_ok _ _) (Gm.mul_inv h h0) e2
  rw [e3, ← e]
theorem gI (a b : Int) (h : Gm.Ok (a, b)) (h0 : (a, b) ≠ ((0, 0) : Gm.E)) : selvedgeref03_Inv.f 16 a b = some ((Gm.pow (a, b) Gm.NN).1, (Gm.pow (a, b) Gm.NN).2, 0) := by
  unfold selvedgeref03_Inv.f
  rw [rmay, Option.bind_some, if_pos (by simpa using h)]
  by_cases h1 : a = 0
  · have : (b == 0) = false := by
      rw [beq_eq_false_iff_ne]
      intro h2
      exact h0 (by rw [h1, h2])
    rw [if_pos h1, this]
    exact rinv a b h h0
  · rw [if_neg h1]
    exact rinv a b h h0
theorem succ_ok {i n : Nat} (h : i < n) (hn : n ≤ 9223372036854775000) : wrap64 ((i : Int) + 1) = ((i + 1 : Nat) : Int) := by rw [wrap64_in _ (by omega)]; omega
theorem rd43 (s : List S104) {i : Nat} (hi : i < s.length) : ((rd_T104 s (i : Int)).f0, ((rd_T104 s (i : Int)).f1.f0, (rd_T104 s (i : Int)).f1.f1)) = (eS s).getD i (0, (0, 0)) := by
  unfold eS rd_T104
  simp [List.getElem?_eq_getElem hi]
theorem eS_set (s : List S104) {i : Nat} (hi : i < s.length) (a b : Int) : eS (s.set i ⟨(rd_T104 s (i : Int)).f0, ⟨a, b⟩⟩) = Fl.put (eS s) i (a, b) := by
  have h := congrArg (·.1) (rd43 s hi)
  simp only at h
  unfold Fl.put Fl.idAt
  rw [← h]
  unfold eS
  rw [List.map_set]
theorem good_take {l : List Int} (h : Fl.Good l) (n : Nat) : Fl.Good (l.take n) := ⟨h.1.sublist (List.take_sublist _ _), fun x hx => h.2 x (List.mem_of_mem_take hx)⟩
theorem eqE (x : Gm.E) (a b : Int) : (x.1 == a && x.2 == b) = decide (x = (a, b)) := by
  rw [Bool.eq_iff_iff]
  obtain ⟨u, v⟩ := x
  simp
theorem eqE' (a b c d : Int) : (a == c && b == d) = decide (((a, b) : Gm.E) = (c, d)) := by
  rw [Bool.eq_iff_iff]; simp
theorem inv_ev (x : Gm.E) (h : Gm.Ok x) (h0 : x ≠ (0, 0)) : Fl.Ev (fun k => selvedgeref03_Inv.f k x.1 x.2) ((Gm.inv x).1, (Gm.inv x).2, 0) :=
  Fl.Ev.of_mono (f := fun k => selvedgeref03_Inv.f k x.1 x.2) (fun k r h => selvedgeref03_Inv.mono _ _ _ r h) (gI x.1 x.2 h h0)
theorem id43 (s : List S104) {i : Nat} (hi : i < s.length) : (rd_T104 s (i : Int)).f0 = Fl.idAt (eS s) i := congrArg (·.1) (rd43 s hi)
theorem v43 (s : List S104) {i : Nat} (hi : i < s.length) : ((rd_T104 s (i : Int)).f1.f0, (rd_T104 s (i : Int)).f1.f1) = Fl.vAt (eS s) i := congrArg (·.2) (rd43 s hi)
/-! ### who has their own number -/
theorem apart_short {l : Fl.Row} (h : Fl.Apart l) : l.length ≤ 64 := by
  have hd : (l.map (·.1)).Nodup := by
    rw [List.nodup_iff_pairwise_ne, List.pairwise_iff_getElem]
    intro i j hi hj hij
    rw [List.length_map] at hi hj
    have := (h j hj).2.2 i hij
    unfold Fl.idAt at this
    rw [List.getD_eq_getElem?_getD, List.getD_eq_getElem?_getD, List.getElem?_eq_getElem hi, List.getElem?_eq_getElem hj] at this
    rw [List.getElem_map, List.getElem_map]
    exact this
  have := Fl.nodup_le 64 (l.map (·.1)) hd (fun x hx => by
    obtain ⟨i, hi, rfl⟩ := List.getElem_of_mem hx
    rw [List.length_map] at hi
    have := h i hi
    unfold Fl.idAt at this
    rw [List.getD_eq_getElem?_getD, List.getElem?_eq_getElem hi] at this
    rw [List.getElem_map]
    exact ⟨this.1, this.2.1⟩)
  rw [List.length_map] at this
  exact this
theorem ap_l1 (l : List S104) (hl : l.length ≤ 9223372036854775000) (r : Bool) (hF : ¬ Fl.Apart (eS l) → r = false) (i : Nat) (hi : i < l.length)
    (cont : (∀ t, t < i → Fl.idAt (eS l) t ≠ Fl.idAt (eS l) i) → Fl.Ev (fun k => selvedgeref04_apart.l0 k l ((i + 1 : Nat) : Int)) r) : ∀ (m j : Nat), j + m = i → (∀ t, t < j → Fl.idAt (eS l) t ≠ Fl.idAt (eS l) i) → Fl.Ev (fun k => selvedgeref04_apart.l1 k l (i : Int) (j : Int)) r
  | 0, j, hj, h => by
    refine (cont (fun t ht => h t (by omega))).step fun k => ?_
    rw [selvedgeref04_apart.l1, if_neg (by omega), succ_ok hi hl]
  | m + 1, j, hj, h => by
    by_cases e : Fl.idAt (eS l) j = Fl.idAt (eS l) i
    · rw [hF (fun ha => (ha i (by rw [eS_length]; exact hi)).2.2 j (by omega) e)]
      refine Fl.Ev.step (g := fun _ => some false) (Fl.Ev.const fun _ => rfl) fun k => ?_
      rw [selvedgeref04_apart.l1, if_pos (by omega), if_pos (by omega), if_pos (by omega), if_pos (by omega), if_pos (by omega), id43 l (show j < l.length by omega), id43 l hi, if_pos e]
    · refine (ap_l1 l hl r hF i hi cont m (j + 1) (by omega) (fun t ht => by
        by_cases e2 : t = j
        · rw [e2]; exact e
        · exact h t (by omega))).step fun k => ?_
      rw [selvedgeref04_apart.l1, if_pos (by omega), if_pos (by omega), if_pos (by omega), if_pos (by omega), if_pos (by omega), id43 l (show j < l.length by omega), id43 l hi, if_neg e, succ_ok (show j < l.length by omega) hl]
theorem ap_l0 (l : List S104) (hl : l.length ≤ 9223372036854775000) (r : Bool) (hT : Fl.Apart (eS l) → r = true) (hF : ¬ Fl.Apart (eS l) → r = false) : ∀ (m i : Nat), i + m = l.length → (∀ j, j < i → 1 ≤ Fl.idAt (eS l) j ∧ Fl.idAt (eS l) j ≤ 64 ∧ ∀ t, t < j → Fl.idAt (eS l) t ≠ Fl.idAt (eS l) j) → Fl.Ev (fun k => selvedgeref04_apart.l0 k l (i : Int)) r
  | 0, i, hi, h => by
    rw [hT (fun j hj => h j (by rw [eS_length] at hj; omega))]
    refine Fl.Ev.step (g := fun _ => some true) (Fl.Ev.const fun _ => rfl) fun k => ?_
    rw [selvedgeref04_apart.l0, if_neg (by omega)]
  | m + 1, i, hi, h => by
    have hin : i < l.length := by omega
    by_cases hb : 1 ≤ Fl.idAt (eS l) i ∧ Fl.idAt (eS l) i ≤ 64
    · have h1 := ap_l1 l hl r hF i hin (fun ht => ap_l0 l hl r hT hF m (i + 1) (by omega) (fun j hj => by
        by_cases e : j = i
        · subst e; exact ⟨hb.1, hb.2, ht⟩
        · exact h j (by omega))) i 0 (by omega) (fun t ht => by omega)
      refine (h1.step (f := fun k => selvedgeref04_apart.j1 k l (i : Int) false) fun k => by rw [selvedgeref04_apart.j1, if_neg (by decide)]; rfl).step fun k => ?_
      rw [selvedgeref04_apart.l0, if_pos (by omega), if_pos (by omega), id43 l hin, if_neg (by omega), show decide (Fl.idAt (eS l) i > 64) = false from decide_eq_false (by omega)]
    · rw [hF (fun ha => hb ⟨(ha i (by rw [eS_length]; exact hin)).1, (ha i (by rw [eS_length]; exact hin)).2.1⟩)]
      refine Fl.Ev.step (g := fun k => selvedgeref04_apart.j1 k l (i : Int) true) (Fl.Ev.step (g := fun _ => some false) (Fl.Ev.const fun _ => rfl) fun k => by rw [selvedgeref04_apart.j1, if_pos rfl]) fun k => ?_
      rw [selvedgeref04_apart.l0, if_pos (by omega), if_pos (by omega), id43 l hin]
      by_cases h1 : Fl.idAt (eS l) i < 1
      · rw [if_pos h1]
      · rw [if_neg h1, show decide (Fl.idAt (eS l) i > 64) = true from decide_eq_true (by omega)]
theorem ap_ev (l : List S104) (hl : l.length ≤ 9223372036854775000) : Fl.Ev (fun k => selvedgeref04_apart.f k l) (Fl.apB (eS l)) := by
  by_cases h : (l.length : Int) > 64
  · have : Fl.apB (eS l) = false := by
      cases e : Fl.apB (eS l) with
      | false => rfl
      | true =>
        have := apart_short ((Fl.apB_iff _).1 e)
        rw [eS_length] at this
        omega
    rw [this]
    exact Fl.Ev.const fun k => by unfold selvedgeref04_apart.f; rw [if_pos h]
  · refine (ap_l0 l hl (Fl.apB (eS l)) (fun ha => (Fl.apB_iff _).2 ha) (fun ha => by
      cases e : Fl.apB (eS l) with
      | false => rfl
      | true => exact absurd ((Fl.apB_iff _).1 e) ha) l.length 0 (by omega) (fun j hj => by omega)).of_eq fun k => ?_
    unfold selvedgeref04_apart.f
    rw [if_neg h]
    rfl
/-! ### by what a share counts -/
def ov (l : Fl.Row) (k i : Nat) : Gm.E := if i = k then (1, 0) else Fl.xAt l i
def un (l : Fl.Row) (k i : Nat) : Gm.E := if i = k then (1, 0) else Gm.sub (Fl.xAt l i) (Fl.xAt l k)
theorem un_ne {l : Fl.Row} (h : Fl.Apart l) {k : Nat} (hk : k < l.length) : Gm.pr (un l k) l.length ≠ (0, 0) := by
  refine Gm.pr_ne (fun i hi => ?_) (fun i hi => ?_)
  · unfold un
    by_cases e : i = k
    · rw [if_pos e]; exact Gm.one_ok
    · rw [if_neg e]; exact Gm.sub_ok _ _
  · unfold un
    by_cases e : i = k
    · rw [if_pos e]; decide
    · rw [if_neg e]; exact Fl.sub_ne (h.x_ok i hi) (h.x_ok k hk) (fun x => e (h.inj i k hi hk x))
theorem lag_frac {l : Fl.Row} (h : Fl.Apart l) {k : Nat} (hk : k < l.length) : Gm.mul (Gm.pr (ov l k) l.length) (Gm.inv (Gm.pr (un l k) l.length)) = Gm.lag (Fl.xAt l) l.length (0, 0) k := by
  have e : Gm.pr (ov l k) l.length = Gm.mul (Gm.lag (Fl.xAt l) l.length (0, 0) k) (Gm.pr (un l k) l.length) := by
    unfold Gm.lag
    rw [← Gm.pr_mul]
    refine Gm.pr_congr fun i hi => ?_
    unfold ov un Gm.fac
    by_cases e : i = k
    · rw [if_pos e, if_pos e, if_pos e]; decide
    · rw [if_neg e, if_neg e, if_neg e, Gm.sub_zero (h.x_ok i hi), Gm.mul_assoc, Gm.mul_comm (Gm.inv _), Gm.mul_inv' (Gm.sub_ok _ _) (Fl.sub_ne (h.x_ok i hi) (h.x_ok k hk) (fun x => e (h.inj i k hi hk x))), Gm.mul_one (h.x_ok i hi)]
  rw [e, Gm.mul_assoc, Gm.mul_inv' (Gm.pr_ok _ _) (un_ne h hk), Gm.mul_one (Fl.lag_ok _ _ _ _)]
theorem rw_l0 (l : List S104) (hl : l.length ≤ 9223372036854775000) (hap : Fl.Apart (eS l)) (a : Nat) (ha : a < l.length) : ∀ (m i : Nat), i + m = l.length →
    Fl.Ev (fun k => selvedgeref04_Weight.l0 k l (a : Int) (i : Int) (Gm.pr (ov (eS l) a) i).1 (Gm.pr (ov (eS l) a) i).2 (Gm.pr (un (eS l) a) i).1 (Gm.pr (un (eS l) a) i).2) ((Fl.wtE (eS l) a).1, (Fl.wtE (eS l) a).2, 0)
  | 0, i, hi => by
    have hSl := eS_length l
    obtain ⟨ki, hi2⟩ := inv_ev (Gm.pr (un (eS l) a) i) (Gm.pr_ok _ _) (by rw [show i = (eS l).length by omega]; exact un_ne hap (by omega))
    have hi2 : ∀ k, ki ≤ k → selvedgeref03_Inv.f k _ _ = _ := hi2
    refine ⟨ki + 1, fun k hk => ?_⟩
    obtain ⟨k', rfl⟩ : ∃ k', k = k' + 1 := ⟨k - 1, by omega⟩
    show selvedgeref04_Weight.l0 (k' + 1) l (a : Int) (i : Int) _ _ _ _ = _
    rw [selvedgeref04_Weight.l0, if_neg (by omega), hi2 k' (by omega), Option.bind_some]
    simp only
    rw [qmul, Option.bind_some, Fl.opE_of (Gm.pr_ok _ _) (Gm.inv_ok _), show i = (eS l).length by omega, lag_frac hap (by omega), Fl.wtE_lag hap (by omega)]
  | m + 1, i, hi => by
    have hSl := eS_length l
    have hin : i < l.length := by omega
    have ih := rw_l0 l hl hap a ha m (i + 1) (by omega)
    refine ih.step fun k => ?_
    rw [selvedgeref04_Weight.l0, if_pos (by omega), succ_ok hin hl, Gm.pr, Gm.pr]
    by_cases e : i = a
    · rw [if_pos (by omega), show ov (eS l) a i = (1, 0) from if_pos e, show un (eS l) a i = (1, 0) from if_pos e, Gm.mul_one (Gm.pr_ok _ _), Gm.mul_one (Gm.pr_ok _ _)]
    · have ox := hap.x_ok i (by omega)
      have oa := hap.x_ok a (by omega)
      have q1 := qmul (Gm.pr (ov (eS l) a) i) (Fl.xAt (eS l) i)
      have q2 := qsub (Fl.xAt (eS l) i) (Fl.xAt (eS l) a)
      rw [Fl.opE_of (Gm.pr_ok _ _) ox] at q1
      rw [Fl.opE_of ox oa] at q2
      have x1 : (Fl.xAt (eS l) i).1 = Fl.idAt (eS l) i := rfl
      have x2 : (Fl.xAt (eS l) i).2 = 0 := rfl
      have y1 : (Fl.xAt (eS l) a).1 = Fl.idAt (eS l) a := rfl
      have y2 : (Fl.xAt (eS l) a).2 = 0 := rfl
      rw [x1, x2] at q1
      rw [x1, x2, y1, y2] at q2
      rw [if_neg (by omega), if_pos (by omega), id43 l hin, id43 l ha, q1, Option.bind_some, if_pos (by omega), if_pos (by omega), q2, Option.bind_some, qmul, Option.bind_some, Fl.opE_of (Gm.pr_ok _ _) (Gm.sub_ok _ _), show ov (eS l) a i = Fl.xAt (eS l) i from if_neg e, show un (eS l) a i = Gm.sub (Fl.xAt (eS l) i) (Fl.xAt (eS l) a) from if_neg e]
/-- by what a share counts, or that there is none -/
def wR (l : List S104) (a : Int) : Int × Int × Int := if Fl.apB (eS l) = true ∧ 0 ≤ a ∧ a < (l.length : Int) then ((Fl.wtE (eS l) a.toNat).1, (Fl.wtE (eS l) a.toNat).2, 0) else (0, 0, 1)
theorem rw_ev (l : List S104) (hl : l.length ≤ 9223372036854775000) (a : Int) : Fl.Ev (fun k => selvedgeref04_Weight.f k l a) (wR l a) := by
  have hno : Fl.Ev (fun k => selvedgeref04_Weight.j0 k l a true) (0, 0, 1) := Fl.Ev.step (g := fun _ => some (0, 0, 1)) (Fl.Ev.const fun _ => rfl) fun k => by rw [selvedgeref04_Weight.j0, if_pos rfl]
  refine Fl.Ev.bind (f := fun k => selvedgeref04_apart.f k l) (g := fun k t => if t = true then (if a < 0 then (selvedgeref04_Weight.j0 k l a true) else (selvedgeref04_Weight.j0 k l a (decide (a ≥ (l.length : Int))))) else (selvedgeref04_Weight.j0 k l a true)) (ap_ev l hl) ?_
  unfold wR
  by_cases h1 : Fl.apB (eS l) = true
  · by_cases h2 : a < 0
    · rw [if_neg (by rintro ⟨_, h, _⟩; omega)]
      exact hno.of_eq fun k => by rw [if_pos h1, if_pos h2]
    · by_cases h3 : a ≥ (l.length : Int)
      · rw [if_neg (by rintro ⟨_, _, h⟩; omega)]
        exact hno.of_eq fun k => by rw [if_pos h1, if_neg h2, decide_eq_true h3]
      · rw [if_pos ⟨h1, by omega, by omega⟩]
        obtain ⟨n, rfl⟩ := Int.eq_ofNat_of_zero_le (show 0 ≤ a by omega)
        rw [Int.toNat_natCast]
        refine (Fl.Ev.step (f := fun k => selvedgeref04_Weight.j0 k l (n : Int) false) (rw_l0 l hl ((Fl.apB_iff _).1 h1) n (by omega) l.length 0 (by omega)) fun k => ?_).of_eq fun k => by rw [if_pos h1, if_neg h2, decide_eq_false h3]
        rw [selvedgeref04_Weight.j0, if_neg (by decide)]
        rfl
  · rw [if_neg (by rintro ⟨h, _⟩; exact h1 h)]
    exact hno.of_eq fun k => by rw [if_neg h1]
/-! ### what is opened -/
theorem ro_a (l : List S104) (hl : l.length ≤ 9223372036854775000) (hap : Fl.Apart (eS l)) (hok : ∀ i, i < (eS l).length → Gm.Ok (Fl.vAt (eS l) i)) (g : Nat → Gm.E) (hg : ∀ i, i < l.length → g i = Gm.mul (Fl.vAt (eS l) i) (Fl.wtE (eS l) i)) : ∀ (m i : Nat), i + m = l.length →
    Fl.Ev (fun k => selvedgeref04_Open.l0 k l (i : Int) (Gm.sm g i).1 (Gm.sm g i).2) ((Gm.sm g l.length).1, (Gm.sm g l.length).2, 0)
  | 0, i, hi => by
    refine Fl.Ev.step (g := fun _ => some ((Gm.sm g l.length).1, (Gm.sm g l.length).2, 0)) (Fl.Ev.const fun _ => rfl) fun k => ?_
    rw [selvedgeref04_Open.l0, if_neg (by omega), show i = l.length by omega]
  | m + 1, i, hi => by
    have hSl := eS_length l
    have hin : i < l.length := by omega
    have ih := ro_a l hl hap hok g hg m (i + 1) (by omega)
    have hw := rw_ev l hl (i : Int)
    rw [show wR l (i : Int) = ((Fl.wtE (eS l) i).1, (Fl.wtE (eS l) i).2, 0) from by unfold wR; rw [if_pos ⟨(Fl.apB_iff _).2 hap, by omega, by omega⟩, Int.toNat_natCast]] at hw
    have ow : Gm.Ok (Fl.wtE (eS l) i) := by rw [Fl.wtE_lag hap (by omega)]; exact Fl.lag_ok _ _ _ _
    have q1 := qmul (Fl.vAt (eS l) i) (Fl.wtE (eS l) i)
    rw [Fl.opE_of (hok i (by omega)) ow] at q1
    have e1 : (Fl.vAt (eS l) i).1 = (rd_T104 l (i : Int)).f1.f0 := by rw [← v43 l hin]
    have e2 : (Fl.vAt (eS l) i).2 = (rd_T104 l (i : Int)).f1.f1 := by rw [← v43 l hin]
    rw [e1, e2] at q1
    obtain ⟨kw, hw⟩ := hw
    obtain ⟨kh, ih⟩ := ih
    have hw : ∀ k, kw ≤ k → selvedgeref04_Weight.f k l (i : Int) = _ := hw
    have ih : ∀ k, kh ≤ k → selvedgeref04_Open.l0 k l ((i + 1 : Nat) : Int) _ _ = _ := ih
    refine ⟨max kw kh + 1, fun k hk => ?_⟩
    obtain ⟨k', rfl⟩ : ∃ k', k = k' + 1 := ⟨k - 1, by omega⟩
    show selvedgeref04_Open.l0 (k' + 1) l (i : Int) _ _ = _
    rw [selvedgeref04_Open.l0, if_pos (by omega), if_pos (by omega), rmay, Option.bind_some, v43 l hin, if_pos (by simpa using hok i (by omega)), hw k' (by omega), Option.bind_some]
    simp only
    rw [q1, Option.bind_some, qadd, Option.bind_some, Fl.opE_of (Gm.sm_ok _ _) (Gm.mul_ok _ _), succ_ok hin hl, ← hg i hin]
    exact ih k' (by omega)
theorem ro_b (l : List S104) (hl : l.length ≤ 9223372036854775000) : ∀ (m i : Nat) (o : Gm.E), i + m = l.length → (∃ j, i ≤ j ∧ j < l.length ∧ ¬ Gm.Ok (Fl.vAt (eS l) j)) → Fl.Ev (fun k => selvedgeref04_Open.l0 k l (i : Int) o.1 o.2) (0, 0, 1)
  | 0, i, o, hi, h => by obtain ⟨j, h1, h2, _⟩ := h; omega
  | m + 1, i, o, hi, h => by
    have hin : i < l.length := by omega
    by_cases ok : Gm.Ok (Fl.vAt (eS l) i)
    · obtain ⟨j, h1, h2, h3⟩ := h
      have hne : j ≠ i := by rintro rfl; exact h3 ok
      obtain ⟨kw, hw⟩ := rw_ev l hl (i : Int)
      have hw : ∀ k, kw ≤ k → selvedgeref04_Weight.f k l (i : Int) = _ := hw
      obtain ⟨kh, ih⟩ := ro_b l hl m (i + 1) (Fl.opE Gm.add o (Fl.opE Gm.mul ((rd_T104 l (i : Int)).f1.f0, (rd_T104 l (i : Int)).f1.f1) ((wR l (i : Int)).1, (wR l (i : Int)).2.1))) (by omega) ⟨j, by omega, h2, h3⟩
      have ih : ∀ k, kh ≤ k → selvedgeref04_Open.l0 k l ((i + 1 : Nat) : Int) _ _ = _ := ih
      refine ⟨max kw kh + 1, fun k hk => ?_⟩
      obtain ⟨k', rfl⟩ : ∃ k', k = k' + 1 := ⟨k - 1, by omega⟩
      show selvedgeref04_Open.l0 (k' + 1) l (i : Int) _ _ = _
      have q1 := qmul ((rd_T104 l (i : Int)).f1.f0, (rd_T104 l (i : Int)).f1.f1) ((wR l (i : Int)).1, (wR l (i : Int)).2.1)
      simp only at q1
      rw [selvedgeref04_Open.l0, if_pos (by omega), if_pos (by omega), rmay, Option.bind_some, v43 l hin, if_pos (by simpa using ok), hw k' (by omega), Option.bind_some, q1, Option.bind_some, qadd, Option.bind_some, succ_ok hin hl]
      exact ih k' (by omega)
    · refine Fl.Ev.step (g := fun _ => some (0, 0, 1)) (Fl.Ev.const fun _ => rfl) fun k => ?_
      rw [selvedgeref04_Open.l0, if_pos (by omega), if_pos (by omega), rmay, Option.bind_some, v43 l hin, if_neg (by simpa using ok)]
theorem ro_ev (l : List S104) (hl : l.length ≤ 9223372036854775000) : Fl.Ev (fun k => selvedgeref04_Open.f k l) ((Fl.openE (eS l) (Fl.wtE (eS l))).1.1, (Fl.openE (eS l) (Fl.wtE (eS l))).1.2, (Fl.openE (eS l) (Fl.wtE (eS l))).2) := by
  have hSl := eS_length l
  have hno : Fl.Ev (fun k => selvedgeref04_Open.j0 k l true) (0, 0, 1) := Fl.Ev.step (g := fun _ => some (0, 0, 1)) (Fl.Ev.const fun _ => rfl) fun k => by rw [selvedgeref04_Open.j0, if_pos rfl]
  refine Fl.Ev.bind (f := fun k => selvedgeref04_apart.f k l) (g := fun k t => if t = true then (selvedgeref04_Open.j0 k l ((l.length : Int) == 0)) else (selvedgeref04_Open.j0 k l true)) (ap_ev l hl) ?_
  by_cases h : (eS l).length ≠ 0 ∧ Fl.Apart (eS l) ∧ ∀ i, i < (eS l).length → Gm.Ok (Fl.vAt (eS l) i)
  · obtain ⟨h0, hap, hok⟩ := h
    have hb : ((l.length : Int) == 0) = false := by rw [beq_eq_false_iff_ne]; omega
    rw [Fl.openE_yes h0 hap hok]
    have ha := ro_a l hl hap hok (fun k => Gm.mul (Fl.vAt (eS l) k) (Fl.wtE (eS l) k)) (fun _ _ => rfl) l.length 0 (by omega)
    have e : Gm.sm (fun k => Gm.mul (Fl.vAt (eS l) k) (Fl.wtE (eS l) k)) l.length = Fl.secret (eS l) := by
      unfold Fl.secret
      rw [hSl]
      exact Gm.sm_congr fun i hi => by rw [Fl.wtE_lag hap (by omega), hSl]
    rw [e] at ha
    refine (ha.step (f := fun k => selvedgeref04_Open.j0 k l false) fun k => ?_).of_eq fun k => by rw [(Fl.apB_iff _).2 hap, if_pos rfl, hb]
    rw [selvedgeref04_Open.j0, if_neg (by decide)]
    rfl
  · rw [Fl.openE_no h]
    by_cases h1 : Fl.apB (eS l) = true
    · by_cases h0 : l.length = 0
      · exact hno.of_eq fun k => by rw [if_pos h1, show ((l.length : Int) == 0) = true from by rw [h0]; rfl]
      · have hb : ((l.length : Int) == 0) = false := by rw [beq_eq_false_iff_ne]; omega
        have hbad : ∃ j, 0 ≤ j ∧ j < l.length ∧ ¬ Gm.Ok (Fl.vAt (eS l) j) := by
          refine Classical.byContradiction fun hn => h ⟨by omega, (Fl.apB_iff _).1 h1, fun i hi => Classical.byContradiction fun ho => hn ⟨i, Nat.zero_le _, by omega, ho⟩⟩
        refine ((ro_b l hl l.length 0 (0, 0) (by omega) hbad).step (f := fun k => selvedgeref04_Open.j0 k l false) fun k => ?_).of_eq fun k => by rw [if_pos h1, hb]
        rw [selvedgeref04_Open.j0, if_neg (by decide)]
        rfl
    · exact hno.of_eq fun k => by rw [if_neg h1]
theorem r_round_l (L : List S59) (n low r : Int) (hl : L.length ≤ 1000000) : ∀ (m i : Nat), i + m = L.length → Fl.Ev (fun k => selvedgeref11_Round.l0 k r (roundC (L.take i) r) (i : Int) n low L) (roundC L r)
  | 0, i, hi => by
    refine Fl.Ev.step (g := fun _ => some (roundC L r)) (Fl.Ev.const fun _ => rfl) fun k => ?_
    rw [selvedgeref11_Round.l0, if_neg (by omega), List.take_of_length_le (by omega)]
  | m + 1, i, hi => by
    have hlt : i < L.length := by omega
    have ih := r_round_l L n low r hl m (i + 1) (by omega)
    have w1 : wrap64 ((i : Int) + 1) = ((i + 1 : Nat) : Int) := by rw [wrap64_in _ (by omega)]; omega
    rw [List.take_succ_eq_append_getElem hlt, roundC_snoc] at ih
    refine ih.step fun k => ?_
    rw [selvedgeref11_Round.l0, if_pos (by omega), if_pos (by omega), rd59 L hlt, w1]
    by_cases h : L[i].f1.f1 = r
    · rw [if_pos h, if_pos h, if_pos (by have := roundC_len (L.take i) r; rw [List.length_take] at this; omega)]
    · rw [if_neg h, if_neg h]
theorem r_round (L : List S59) (n low r : Int) (hl : L.length ≤ 1000000) : Fl.Ev (fun k => selvedgeref11_Round.f k n low L r) (roundC L r) :=
  (r_round_l L n low r hl L.length 0 (by omega)).of_eq fun k => by unfold selvedgeref11_Round.f; rfl
theorem r_rev_l (X L : List S59) (n low : Int) (hl : X.length ≤ 1000000) (v : Nat) (hv : v ≤ X.length) : ∀ (m i : Nat), i + m = v → Fl.Ev (fun k => selvedgeref12_Reveal.l0 k X (v : Int) ((X.take i).map shC) (i : Int) n low L) (openC ((X.take v).map shC) n)
  | 0, i, hi => by
    have ho := ro_ev ((X.take v).map shC) (by rw [List.length_map, List.length_take]; omega)
    refine Fl.Ev.step (ho.bind (g := fun k bt243 => (if bt243.2.2 = 0 then ((selvedgeref12_Leader.f bt243.1 bt243.2.1 n).bind fun t247 => (some (t247, 0))) else (some (0, bt243.2.2)))) ?_) fun k => ?_
    · unfold openC
      by_cases h : (Fl.openE (eS ((X.take v).map shC)) (Fl.wtE (eS ((X.take v).map shC)))).2 = 0
      · rw [if_pos h]
        exact Fl.Ev.const fun k => by simp only; rw [if_pos h, c_rlead]; rfl
      · rw [if_neg h]
        exact Fl.Ev.const fun k => by simp only; rw [if_neg h]
    · rw [selvedgeref12_Reveal.l0, if_neg (by omega), show i = v by omega]
  | m + 1, i, hi => by
    have hlt : i < X.length := by omega
    have ih := r_rev_l X L n low hl v hv m (i + 1) (by omega)
    have w1 : wrap64 ((i : Int) + 1) = ((i + 1 : Nat) : Int) := by rw [wrap64_in _ (by omega)]; omega
    rw [List.take_succ_eq_append_getElem hlt, List.map_append] at ih
    refine ih.step fun k => ?_
    rw [selvedgeref12_Reveal.l0, if_pos (by omega), if_pos (by omega), if_pos (by omega), if_pos (by rw [List.length_map, List.length_take]; omega), rd59 X hlt, w1]
    rfl
theorem r_rev (L : List S59) (n low wave : Int) (hl : L.length ≤ 1000000) : Fl.Ev (fun k => selvedgeref12_Reveal.f k n low L wave) (revC n L wave) := by
  have hno : Fl.Ev (fun k => selvedgeref12_Reveal.j0 k wave true n low L) (0, 1) := Fl.Ev.step (g := fun _ => some (0, 1)) (Fl.Ev.const fun _ => rfl) fun k => by rw [selvedgeref12_Reveal.j0, if_pos rfl]
  unfold revC
  by_cases h1 : wave < 1
  · rw [if_pos (.inl h1)]
    exact hno.of_eq fun k => by unfold selvedgeref12_Reveal.f; rw [c_rmay, Option.bind_some, if_pos h1]
  · by_cases h2 : 1048576 < wave
    · rw [if_pos (.inr (.inl h2))]
      exact hno.of_eq fun k => by unfold selvedgeref12_Reveal.f; rw [c_rmay, Option.bind_some, if_neg h1, if_pos h2]
    · cases hn : mayC n with
      | false =>
        rw [if_pos (.inr (.inr rfl))]
        exact hno.of_eq fun k => by unfold selvedgeref12_Reveal.f; rw [c_rmay, Option.bind_some, if_neg h1, if_neg h2, hn]; rfl
      | true =>
        rw [if_neg (by rintro (h | h | h) <;> first | omega | cases h)]
        have hr := r_round L n low (3 * wave) hl
        have hj : Fl.Ev (fun k => selvedgeref12_Reveal.j0 k wave false n low L) (if (roundC L (3 * wave)).length < weakC n then (0, 12) else openC (((roundC L (3 * wave)).take (weakC n)).map shC) n) := by
          refine Fl.Ev.step (hr.bind (g := fun k t234 => ((selvedgeref05_Weak.f n).bind fun t237 => (if (t234.length : Int) < t237 then (some (0, 12)) else (selvedgeref12_Reveal.l0 k t234 t237 ([] : List (S104)) 0 n low L)))) ?_) fun k => ?_
          · by_cases h3 : (roundC L (3 * wave)).length < weakC n
            · rw [if_pos h3]
              exact Fl.Ev.const fun k => by rw [c_rweak, Option.bind_some, if_pos (by omega)]
            · rw [if_neg h3]
              have hR := roundC_len L (3 * wave)
              refine (r_rev_l (roundC L (3 * wave)) L n low (by omega) (weakC n) (by omega) _ 0 (Nat.zero_add _)).of_eq fun k => ?_
              rw [c_rweak, Option.bind_some, if_neg (by omega)]
              rfl
          · rw [selvedgeref12_Reveal.j0, if_neg (by decide), wrap64_in _ (by omega)]
        exact hj.of_eq fun k => by unfold selvedgeref12_Reveal.f; rw [c_rmay, Option.bind_some, if_neg h1, if_neg h2, hn]; rfl
theorem CoinReveals : selvedgelaw12_CoinReveals.Pure := by
  intro x a hx ha
  by_cases h : (x.f2.length : Int) > 200
  · refine ⟨0, ?_⟩
    unfold selvedgelaw12_CoinReveals.f
    rw [shown, Option.bind_some, if_pos h]
  · obtain ⟨k1, h1⟩ := c_rev x.f2 x.f0 x.f1 a (by omega)
    obtain ⟨k2, h2⟩ := r_rev x.f2 x.f0 x.f1 a (by omega)
    have h1 : ∀ k, k1 ≤ k → coin_Reveal.f k _ _ _ _ = _ := h1
    have h2 : ∀ k, k2 ≤ k → selvedgeref12_Reveal.f k _ _ _ _ = _ := h2
    refine ⟨max k1 k2, ?_⟩
    unfold selvedgelaw12_CoinReveals.f
    rw [shown, Option.bind_some, if_neg h, h1 _ (by omega), Option.bind_some, h2 _ (by omega), Option.bind_some, if_pos rfl, if_pos rfl]
    simp

end Go.Proofs.Ytdppmkcahfjceaa.Pure
