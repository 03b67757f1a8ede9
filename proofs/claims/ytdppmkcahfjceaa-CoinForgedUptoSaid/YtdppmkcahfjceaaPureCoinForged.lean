/- Proved: the pure half of the law CoinForged of chapter 12 (what the walked program computes is 'true'). Conditions: those of its row, no other. -/
import Derived.Test.YtdppmkcahfjceaaArgCoinForged
import Derived.Test.YtdppmkcahfjceaaSz
import Derived.Test.YtdppmkcahfjceaaDl
import Derived.IntWalk
namespace Go.Proofs.Ytdppmkcahfjceaa.Pure
open Go.IntWalk Go.RowKit Go.Proofs.Ytdppmkcahfjceaa.PCoinForged Go.Proofs.YtdppmkcahfjceaaW.PrintWords Go.Proofs.YtdppmkcahfjceaaW.PrintLast
set_option linter.unusedSimpArgs false
set_option linter.unusedVariables false

def mayC (n : Int) : Bool := decide (4 ≤ n ∧ n ≤ 64 ∧ n % 3 = 1)
theorem c_may (n : Int) : seats_May.f n = some (mayC n) := by
  unfold seats_May.f mayC
  by_cases h1 : n ≥ 4
  · by_cases h2 : n ≤ 64
    · rw [if_pos h1, if_pos h2, Int.tmod_eq_emod_of_nonneg (by omega)]
      congr 1
      rw [Bool.eq_iff_iff, beq_iff_eq, decide_eq_true_iff]
      omega
    · rw [if_pos h1, if_neg h2, decide_eq_false (by omega)]
  · rw [if_neg h1, decide_eq_false (by omega)]
theorem mayC_of {n : Int} (h : mayC n = true) : 4 ≤ n ∧ n ≤ 64 ∧ n % 3 = 1 := of_decide_eq_true h
def weakC (n : Int) : Nat := if mayC n = true then ((n - 1) / 3).toNat + 1 else 0
theorem weakC_le (n : Int) : weakC n ≤ 22 := by
  unfold weakC
  by_cases h : mayC n = true
  · have := mayC_of h; rw [if_pos h]; omega
  · rw [if_neg h]; omega
theorem weakC_pos {n : Int} (h : mayC n = true) : 2 ≤ weakC n := by
  have := mayC_of h
  unfold weakC
  rw [if_pos h]
  omega
theorem c_weak (n : Int) : seats_Weak.f n = some (weakC n : Int) := by
  unfold seats_Weak.f seats_Faults.f weakC
  rw [c_may]
  simp only [Option.bind_some]
  by_cases h : mayC n = true
  · have := mayC_of h
    rw [if_pos h, if_pos h, if_pos h, Option.bind_some, wrap64_in (n - 1) (by omega), Int.tdiv_eq_ediv_of_nonneg (by omega), wrap64_in ((n - 1) / 3) (by omega), wrap64_in _ (by omega)]
    congr 1
    omega
  · rw [if_neg h, if_neg h]
    rfl
theorem c_gm (a b : Int) : gauss_May.f a b = some (decide (Gm.Ok (a, b))) := by
  have e : Gm.Ok (a, b) ↔ 0 ≤ a ∧ a < 10007 ∧ 0 ≤ b ∧ b < 10007 := Iff.rfl
  unfold gauss_May.f
  by_cases h1 : a ≥ 0
  · by_cases h2 : a < 10007
    · by_cases h3 : b ≥ 0
      · rw [if_pos h1, if_pos h2, if_pos h3, Option.some.injEq, decide_eq_decide, e]
        omega
      · rw [if_pos h1, if_pos h2, if_neg h3, decide_eq_false (fun h => by rw [e] at h; omega)]
    · rw [if_pos h1, if_neg h2, decide_eq_false (fun h => by rw [e] at h; omega)]
  · rw [if_neg h1, decide_eq_false (fun h => by rw [e] at h; omega)]
def leadC (x : Gm.E) (n : Int) : Int := if mayC n = true ∧ Gm.Ok x then 1 + (x.1 * 10007 + x.2) % n else 0
theorem lead_sum (a b n : Int) (hn : mayC n = true) (h : Gm.Ok (a, b)) : wrap64 (1 + Int.tmod (wrap64 (wrap64 (a * 10007) + b)) n) = 1 + (a * 10007 + b) % n := by
  have hm := mayC_of hn
  obtain ⟨h1, h2, h3, h4⟩ : 0 ≤ a ∧ a < 10007 ∧ 0 ≤ b ∧ b < 10007 := h
  have m1 := Int.emod_nonneg (a * 10007 + b) (show n ≠ 0 by omega)
  have m2 := Int.emod_lt_of_pos (a * 10007 + b) (show 0 < n by omega)
  rw [wrap64_in (a * 10007) (by omega), wrap64_in (a * 10007 + b) (by omega), Int.tmod_eq_emod_of_nonneg (by omega), wrap64_in _ (by omega)]
theorem c_lead (a b n : Int) : coin_Leader.f a b n = some (leadC (a, b) n) := by
  unfold coin_Leader.f leadC
  rw [c_may, Option.bind_some]
  by_cases hn : mayC n = true
  · have hm := mayC_of hn
    rw [if_pos hn, c_gm, Option.bind_some]
    by_cases h : Gm.Ok (a, b)
    · rw [if_pos (decide_eq_true h), if_neg (by omega), if_pos ⟨hn, h⟩, lead_sum a b n hn h]
    · rw [if_neg (by simpa using h), if_neg (fun x => h x.2)]
  · rw [if_neg hn, if_neg (fun x => hn x.1)]
def dealC (tape : ByteArray) (wave n : Int) : List Gm.E := if wave < 1 ∨ mayC n = false then [] else Sa.dealL tape wave.toNat (weakC n)
def toE (l : List Gm.E) : List S23 := l.map fun p => (⟨p.1, p.2⟩ : S23)
theorem c_deal (tape : ByteArray) (wave n : Int) (ht : tape.size ≤ 1048576) (hw : wave ≤ 9223372036854775807) : coin_Deal.f tape wave n = some (toE (dealC tape wave n)) := by
  unfold coin_Deal.f dealC
  by_cases h1 : wave < 1
  · rw [if_pos h1, if_pos (.inl h1)]
    rfl
  · rw [if_neg h1, c_may, Option.bind_some]
    cases hn : mayC n with
    | false =>
      rw [if_neg (by decide), if_pos (.inr rfl)]
      rfl
    | true =>
      have := weakC_le n
      rw [if_pos rfl, c_weak, Option.bind_some, if_pos ⟨by omega, by omega, by omega, hw⟩, if_neg (by simp; omega), Int.toNat_natCast]
      rfl
theorem dealC_length (tape : ByteArray) (wave n : Int) (h1 : ¬ wave < 1) (hn : mayC n = true) : (dealC tape wave n).length = weakC n := by
  unfold dealC
  rw [if_neg (by simp [hn]; omega), Sa.dealL_length]
theorem num4_ok (d : ByteArray) (i : Nat) : 0 ≤ Sa.num4 d i ∧ Sa.num4 d i < 10007 := by
  unfold Sa.num4
  omega
theorem dealC_ok (tape : ByteArray) (wave n : Int) : ∀ c ∈ dealC tape wave n, Gm.Ok c := by
  intro c hc
  unfold dealC at hc
  split at hc
  · cases hc
  · unfold Sa.dealL at hc
    obtain ⟨k, _, rfl⟩ := List.mem_map.1 hc
    exact ⟨(num4_ok _ _).1, (num4_ok _ _).2, (num4_ok _ _).1, (num4_ok _ _).2⟩
theorem wfI {n : Int} (h : (Lit.int .i64 n).wf = true) : -9223372036854775808 ≤ n ∧ n ≤ 9223372036854775807 := by
  simp [Lit.wf, IntKind.min, IntKind.max, IntKind.signed, IntKind.bits] at h
  omega
theorem shown : selvedgelaw12_shown.f = some true := by
  unfold selvedgelaw12_shown.f
  have e1 : mayC 4 = true := by decide
  have l1 : leadC (0, 0) 4 = 1 := by decide
  have l2 : leadC (5, 2) 4 = 2 := by decide
  rw [c_deal _ _ _ (by decide) (by decide), Option.bind_some, c_lead, Option.bind_some, l1, if_pos rfl, c_lead, Option.bind_some, l2, if_pos rfl]
  unfold toE
  rw [List.length_map, dealC_length _ _ _ (by decide) e1]
  rfl
theorem eE_toE (l : List Gm.E) : eE (toE l) = l := by
  unfold eE toE
  rw [List.map_map]
  exact List.map_id' _
def ownC (tape : ByteArray) (wave n id : Int) : Gm.E := (Fl.ofE (dealC tape wave n) id).1.2
theorem ofE_zero (l : List Gm.E) (id : Int) (h : (Fl.ofE l id).2 ≠ 0) : (Fl.ofE l id).1.2 = (0, 0) := by
  unfold Fl.ofE at h ⊢
  split
  · rfl
  · split
    · rfl
    · split
      · rfl
      · rename_i h1 h2 h3
        rw [if_neg h1, if_neg h2, if_neg h3] at h
        exact absurd rfl h
theorem c_own (tape : ByteArray) (wave n id : Int) (ht : tape.size ≤ 1048576) (hw : wave ≤ 9223372036854775807) : coin_Own.f tape wave n id = some ((ownC tape wave n id).1, (ownC tape wave n id).2) := by
  unfold coin_Own.f share_Of.f ownC
  rw [c_deal tape wave n ht hw, Option.bind_some, Option.bind_some, eE_toE]
  by_cases h : (Fl.ofE (dealC tape wave n) id).2 = 0
  · rw [if_pos h]
  · rw [if_neg h, ofE_zero _ _ h]
theorem c_third (r : Int) : vertex_Third.f r = some (decide (3 ≤ r ∧ r % 3 = 0)) := by
  unfold vertex_Third.f
  by_cases h : r ≥ 3
  · rw [if_pos h, Int.tmod_eq_emod_of_nonneg (by omega)]
    congr 1
    rw [Bool.eq_iff_iff, beq_iff_eq, decide_eq_true_iff]
    omega
  · rw [if_neg h, decide_eq_false (by omega)]
theorem c_wave (r : Int) (h3 : 3 ≤ r ∧ r % 3 = 0) (hr : r ≤ 9223372036854775807) : vertex_Wave.f r = some (r / 3) := by
  unfold vertex_Wave.f
  rw [if_neg (by omega), wrap64_in (r - 1) (by omega), Int.tdiv_eq_ediv_of_nonneg (by omega), wrap64_in ((r - 1) / 3) (by omega), wrap64_in _ (by omega)]
  congr 1
  omega
def fitsC (tape : ByteArray) (n id r : Int) (x : Gm.E) : Bool := if 3 ≤ r ∧ r % 3 = 0 then decide (x = ownC tape (r / 3) n id) else decide (x = (0, 0))
theorem eqC (a b : Int) (y : Gm.E) : (a == y.1 && (b == y.2)) = decide (((a, b) : Gm.E) = y) := by
  obtain ⟨u, v⟩ := y
  rw [Bool.eq_iff_iff]; simp
theorem c_fits (tape : ByteArray) (n id r : Int) (l2 : List S193) (l3 : List ByteArray) (a b : Int) (ht : tape.size ≤ 1048576) (hr : r ≤ 9223372036854775807) : coin_Fits.f tape n id r l2 l3 a b = some (fitsC tape n id r (a, b)) := by
  unfold coin_Fits.f fitsC
  rw [c_third, Option.bind_some]
  by_cases h : 3 ≤ r ∧ r % 3 = 0
  · rw [if_pos (decide_eq_true h), if_pos h, c_wave r h hr, Option.bind_some, c_own _ _ _ _ ht (by omega), Option.bind_some, eqC]
  · rw [if_neg (by simpa using h), if_neg h]
    congr 1
    exact eqC a b (0, 0)
theorem c_rthird (r : Int) : selvedgeref08_Third.f r = some (decide (3 ≤ r ∧ r % 3 = 0)) := by
  unfold selvedgeref08_Third.f
  by_cases h : r > 0
  · rw [if_pos h, Int.tmod_eq_emod_of_nonneg (by omega)]
    congr 1
    rw [Bool.eq_iff_iff, beq_iff_eq, decide_eq_true_iff]
    omega
  · rw [if_neg h, decide_eq_false (by omega)]
theorem CoinForged : selvedgelaw12_CoinForged.Pure := by
  intro x hx hb
  have ht : x.f0.size ≤ 1048576 := by unfold B44 at hb; simp only at hb; omega
  have hr := (wfI hx.2.2.1.2.1).2
  refine ⟨1, ?_⟩
  unfold selvedgelaw12_CoinForged.f
  rw [shown, Option.bind_some, if_pos rfl, show (1 : Nat) = 0 + 1 from rfl, selvedgelaw12_CoinForged.j0]
  by_cases h1 : x.f2.f1 < 1
  · rw [if_pos (decide_eq_true h1)]
  · rw [if_neg (by simpa using h1), c_fits _ _ _ _ _ _ _ _ ht hr, Option.bind_some, c_rthird, Option.bind_some]
    unfold fitsC
    by_cases h : 3 ≤ x.f2.f1 ∧ x.f2.f1 % 3 = 0
    · rw [if_pos h, if_pos (decide_eq_true h), Int.tdiv_eq_ediv_of_nonneg (by omega), wrap64_in _ (by omega), c_own _ _ _ _ ht (by omega), Option.bind_some, eqC]
      rw [Option.some.injEq, beq_self_eq_true]
    · rw [if_neg h, if_neg (by simpa using h)]
      have := eqC x.f3.f0 x.f3.f1 (0, 0)
      simp only at this
      rw [this]
      simp

end Go.Proofs.Ytdppmkcahfjceaa.Pure
