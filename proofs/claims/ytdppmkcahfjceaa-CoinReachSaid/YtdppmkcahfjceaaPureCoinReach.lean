/- Proved: the pure half of the law CoinReach of chapter 12 (what the walked program computes is 'true'). Conditions: those of its row, no other. -/
import Derived.Test.YtdppmkcahfjceaaArgCoinReach
import Derived.Test.YtdppmkcahfjceaaSz
import Derived.Test.YtdppmkcahfjceaaDl
import Derived.IntWalk
namespace Go.Proofs.Ytdppmkcahfjceaa.Pure
open Go.IntWalk Go.RowKit Go.Proofs.Ytdppmkcahfjceaa.PCoinReach Go.Proofs.YtdppmkcahfjceaaW.PrintWords Go.Proofs.YtdppmkcahfjceaaW.PrintLast
set_option linter.unusedSimpArgs false
set_option linter.unusedVariables false

def mayC (n : Int) : Bool := decide (4 ≤ n ∧ n ≤ 64 ∧ n % 3 = 1)
theorem c_may (n : Int) : seats_May.f n = some (mayC n) := by
  unfold seats_May.f mayC
  by_cases h1 : n ≥ 4
  · by_cases h2 : n ≤ 64
    · rw [if_pos h1, if_pos h2, Int.tmod_eq_emod_of_nonneg (by omega)]
      congr 1
      rw [Bool.eq_iff_iff, beq_iff_eq, decide_eq_true_iff]
      omega
    · rw [if_pos h1, if_neg h2, decide_eq_false (by omega)]
  · rw [if_neg h1, decide_eq_false (by omega)]
theorem mayC_of {n : Int} (h : mayC n = true) : 4 ≤ n ∧ n ≤ 64 ∧ n % 3 = 1 := of_decide_eq_true h
def weakC (n : Int) : Nat := if mayC n = true then ((n - 1) / 3).toNat + 1 else 0
theorem weakC_le (n : Int) : weakC n ≤ 22 := by
  unfold weakC
  by_cases h : mayC n = true
  · have := mayC_of h; rw [if_pos h]; omega
  · rw [if_neg h]; omega
theorem weakC_pos {n : Int} (h : mayC n = true) : 2 ≤ weakC n := by
  have := mayC_of h
  unfold weakC
  rw [if_pos h]
  omega
theorem c_weak (n : Int) : seats_Weak.f n = some (weakC n : Int) := by
  unfold seats_Weak.f seats_Faults.f weakC
  rw [c_may]
  simp only [Option.bind_some]
  by_cases h : mayC n = true
  · have := mayC_of h
    rw [if_pos h, if_pos h, if_pos h, Option.bind_some, wrap64_in (n - 1) (by omega), Int.tdiv_eq_ediv_of_nonneg (by omega), wrap64_in ((n - 1) / 3) (by omega), wrap64_in _ (by omega)]
    congr 1
    omega
  · rw [if_neg h, if_neg h]
    rfl
theorem c_gm (a b : Int) : gauss_May.f a b = some (decide (Gm.Ok (a, b))) := by
  have e : Gm.Ok (a, b) ↔ 0 ≤ a ∧ a < 10007 ∧ 0 ≤ b ∧ b < 10007 := Iff.rfl
  unfold gauss_May.f
  by_cases h1 : a ≥ 0
  · by_cases h2 : a < 10007
    · by_cases h3 : b ≥ 0
      · rw [if_pos h1, if_pos h2, if_pos h3, Option.some.injEq, decide_eq_decide, e]
        omega
      · rw [if_pos h1, if_pos h2, if_neg h3, decide_eq_false (fun h => by rw [e] at h; omega)]
    · rw [if_pos h1, if_neg h2, decide_eq_false (fun h => by rw [e] at h; omega)]
  · rw [if_neg h1, decide_eq_false (fun h => by rw [e] at h; omega)]
def leadC (x : Gm.E) (n : Int) : Int := if mayC n = true ∧ Gm.Ok x then 1 + (x.1 * 10007 + x.2) % n else 0
theorem lead_sum (a b n : Int) (hn : mayC n = true) (h : Gm.Ok (a, b)) : wrap64 (1 + Int.tmod (wrap64 (wrap64 (a * 10007) + b)) n) = 1 + (a * 10007 + b) % n := by
  have hm := mayC_of hn
  obtain ⟨h1, h2, h3, h4⟩ : 0 ≤ a ∧ a < 10007 ∧ 0 ≤ b ∧ b < 10007 := h
  have m1 := Int.emod_nonneg (a * 10007 + b) (show n ≠ 0 by omega)
  have m2 := Int.emod_lt_of_pos (a * 10007 + b) (show 0 < n by omega)
  rw [wrap64_in (a * 10007) (by omega), wrap64_in (a * 10007 + b) (by omega), Int.tmod_eq_emod_of_nonneg (by omega), wrap64_in _ (by omega)]
theorem c_lead (a b n : Int) : coin_Leader.f a b n = some (leadC (a, b) n) := by
  unfold coin_Leader.f leadC
  rw [c_may, Option.bind_some]
  by_cases hn : mayC n = true
  · have hm := mayC_of hn
    rw [if_pos hn, c_gm, Option.bind_some]
    by_cases h : Gm.Ok (a, b)
    · rw [if_pos (decide_eq_true h), if_neg (by omega), if_pos ⟨hn, h⟩, lead_sum a b n hn h]
    · rw [if_neg (by simpa using h), if_neg (fun x => h x.2)]
  · rw [if_neg hn, if_neg (fun x => hn x.1)]
def dealC (tape : ByteArray) (wave n : Int) : List Gm.E := if wave < 1 ∨ mayC n = false then [] else Sa.dealL tape wave.toNat (weakC n)
def toE (l : List Gm.E) : List S23 := l.map fun p => (⟨p.1, p.2⟩ : S23)
theorem c_deal (tape : ByteArray) (wave n : Int) (ht : tape.size ≤ 1048576) (hw : wave ≤ 9223372036854775807) : coin_Deal.f tape wave n = some (toE (dealC tape wave n)) := by
  unfold coin_Deal.f dealC
  by_cases h1 : wave < 1
  · rw [if_pos h1, if_pos (.inl h1)]
    rfl
  · rw [if_neg h1, c_may, Option.bind_some]
    cases hn : mayC n with
    | false =>
      rw [if_neg (by decide), if_pos (.inr rfl)]
      rfl
    | true =>
      have := weakC_le n
      rw [if_pos rfl, c_weak, Option.bind_some, if_pos ⟨by omega, by omega, by omega, hw⟩, if_neg (by simp; omega), Int.toNat_natCast]
      rfl
theorem dealC_length (tape : ByteArray) (wave n : Int) (h1 : ¬ wave < 1) (hn : mayC n = true) : (dealC tape wave n).length = weakC n := by
  unfold dealC
  rw [if_neg (by simp [hn]; omega), Sa.dealL_length]
theorem num4_ok (d : ByteArray) (i : Nat) : 0 ≤ Sa.num4 d i ∧ Sa.num4 d i < 10007 := by
  unfold Sa.num4
  omega
theorem dealC_ok (tape : ByteArray) (wave n : Int) : ∀ c ∈ dealC tape wave n, Gm.Ok c := by
  intro c hc
  unfold dealC at hc
  split at hc
  · cases hc
  · unfold Sa.dealL at hc
    obtain ⟨k, _, rfl⟩ := List.mem_map.1 hc
    exact ⟨(num4_ok _ _).1, (num4_ok _ _).2, (num4_ok _ _).1, (num4_ok _ _).2⟩
theorem wfI {n : Int} (h : (Lit.int .i64 n).wf = true) : -9223372036854775808 ≤ n ∧ n ≤ 9223372036854775807 := by
  simp [Lit.wf, IntKind.min, IntKind.max, IntKind.signed, IntKind.bits] at h
  omega
theorem shown : selvedgelaw12_shown.f = some true := by
  unfold selvedgelaw12_shown.f
  have e1 : mayC 4 = true := by decide
  have l1 : leadC (0, 0) 4 = 1 := by decide
  have l2 : leadC (5, 2) 4 = 2 := by decide
  rw [c_deal _ _ _ (by decide) (by decide), Option.bind_some, c_lead, Option.bind_some, l1, if_pos rfl, c_lead, Option.bind_some, l2, if_pos rfl]
  unfold toE
  rw [List.length_map, dealC_length _ _ _ (by decide) e1]
  rfl
theorem c_rmay (n : Int) : selvedgeref05_May.f n = some (mayC n) := by
  unfold selvedgeref05_May.f mayC
  by_cases h0 : n = 4
  · rw [if_pos h0, decide_eq_true (by omega)]
  · by_cases h1 : n > 4
    · by_cases h2 : n ≤ 64
      · rw [if_neg h0, if_pos h1, if_pos h2, wrap64_in _ (by omega), Int.tmod_eq_emod_of_nonneg (by omega)]
        congr 1
        rw [Bool.eq_iff_iff, beq_iff_eq, decide_eq_true_iff]
        omega
      · rw [if_neg h0, if_pos h1, if_neg h2, decide_eq_false (by omega)]
    · rw [if_neg h0, if_neg h1, decide_eq_false (by omega)]
theorem CoinReach : selvedgelaw12_CoinReach.Pure := by
  intro n x id hn hx hid
  have hx0 := wfI hx.1
  have hx1 := wfI hx.2
  have hid := wfI hid
  refine ⟨1, ?_⟩
  have J : ∀ z : Bool, z = (!decide (mayC n = true ∧ Gm.Ok (x.f0, x.f1))) → selvedgelaw12_CoinReach.j0 1 n id true z x.f0 x.f1 = some true := by
    intro z hz
    rw [show (1 : Nat) = 0 + 1 from rfl, selvedgelaw12_CoinReach.j0, c_lead]
    by_cases h : mayC n = true ∧ Gm.Ok (x.f0, x.f1)
    · have hm := mayC_of h.1
      rw [decide_eq_true h] at hz
      have e : leadC (x.f0, x.f1) n = 1 + (x.f0 * 10007 + x.f1) % n := if_pos h
      have m1 := Int.emod_nonneg (x.f0 * 10007 + x.f1) (show n ≠ 0 by omega)
      have m2 := Int.emod_lt_of_pos (x.f0 * 10007 + x.f1) (show 0 < n by omega)
      rw [hz, if_neg (by decide), Option.bind_some, e, if_neg (by omega), if_neg (by omega), if_pos rfl]
      by_cases h1 : id < 1
      · rw [if_pos h1]
      · by_cases h2 : id > n
        · rw [if_neg h1, if_pos h2]
        · rw [if_neg h1, if_neg h2, wrap64_in _ (by omega), c_lead, Option.bind_some]
          have e2 : leadC (0, id - 1) n = 1 + (0 * 10007 + (id - 1)) % n := if_pos ⟨h.1, by show 0 ≤ 0 ∧ (0 : Int) < 10007 ∧ 0 ≤ id - 1 ∧ id - 1 < 10007; omega⟩
          rw [e2, Int.zero_mul, Int.zero_add, Int.emod_eq_of_lt (by omega) (by omega)]
          congr 1
          rw [beq_iff_eq]
          omega
    · rw [decide_eq_false h] at hz
      have e : leadC (x.f0, x.f1) n = 0 := if_neg h
      rw [hz, if_pos (by decide), if_pos rfl, e]
      rfl
  unfold selvedgelaw12_CoinReach.f
  rw [shown, Option.bind_some, c_rmay, Option.bind_some]
  have ok : Gm.Ok (x.f0, x.f1) ↔ 0 ≤ x.f0 ∧ x.f0 < 10007 ∧ 0 ≤ x.f1 ∧ x.f1 < 10007 := Iff.rfl
  cases hm : mayC n with
  | false =>
    rw [if_neg (by decide)]
    exact J true (by rw [decide_eq_false (by rw [hm]; simp)]; rfl)
  | true =>
    rw [if_pos rfl]
    by_cases h1 : x.f0 < 0
    · rw [if_pos h1]
      exact J true (by rw [decide_eq_false (by rw [ok]; omega)]; rfl)
    · by_cases h2 : x.f0 > 10006
      · rw [if_neg h1, if_pos h2]
        exact J true (by rw [decide_eq_false (by rw [ok]; omega)]; rfl)
      · by_cases h3 : x.f1 < 0
        · rw [if_neg h1, if_neg h2, if_pos h3]
          exact J true (by rw [decide_eq_false (by rw [ok]; omega)]; rfl)
        · rw [if_neg h1, if_neg h2, if_neg h3]
          refine J _ ?_
          by_cases h4 : x.f1 > 10006
          · rw [decide_eq_true h4, decide_eq_false (by rw [ok]; omega)]; rfl
          · rw [decide_eq_false h4, decide_eq_true ⟨hm, by rw [ok]; omega⟩]; rfl

end Go.Proofs.Ytdppmkcahfjceaa.Pure
