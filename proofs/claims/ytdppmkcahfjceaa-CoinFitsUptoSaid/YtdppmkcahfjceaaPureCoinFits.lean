/- Proved: the pure half of the law CoinFits of chapter 12 (what the walked program computes is 'true'). Conditions: those of its row, no other. -/
import Derived.Test.YtdppmkcahfjceaaArgCoinFits
import Derived.Test.YtdppmkcahfjceaaVCoinFitsSz
import Derived.Test.YtdppmkcahfjceaaVCoinFitsDl
import Derived.IntWalk
namespace Go.Proofs.Ytdppmkcahfjceaa.Pure
open Go.IntWalk Go.RowKit Go.Proofs.Ytdppmkcahfjceaa.PCoinFits Go.Proofs.YtdppmkcahfjceaaW.PrintWords Go.Proofs.YtdppmkcahfjceaaW.PrintLast
set_option linter.unusedSimpArgs false
set_option linter.unusedVariables false

def mayC (n : Int) : Bool := decide (4 ≤ n ∧ n ≤ 64 ∧ n % 3 = 1)
theorem c_may (n : Int) : seats_May.f n = some (mayC n) := by
  unfold seats_May.f mayC
  by_cases h1 : n ≥ 4
  · by_cases h2 : n ≤ 64
    · rw [if_pos h1, if_pos h2, Int.tmod_eq_emod_of_nonneg (by omega)]
      congr 1
      rw [Bool.eq_iff_iff, beq_iff_eq, decide_eq_true_iff]
      omega
    · rw [if_pos h1, if_neg h2, decide_eq_false (by omega)]
  · rw [if_neg h1, decide_eq_false (by omega)]
theorem mayC_of {n : Int} (h : mayC n = true) : 4 ≤ n ∧ n ≤ 64 ∧ n % 3 = 1 := of_decide_eq_true h
def weakC (n : Int) : Nat := if mayC n = true then ((n - 1) / 3).toNat + 1 else 0
theorem weakC_le (n : Int) : weakC n ≤ 22 := by
  unfold weakC
  by_cases h : mayC n = true
  · have := mayC_of h; rw [if_pos h]; omega
  · rw [if_neg h]; omega
theorem weakC_pos {n : Int} (h : mayC n = true) : 2 ≤ weakC n := by
  have := mayC_of h
  unfold weakC
  rw [if_pos h]
  omega
theorem c_weak (n : Int) : seats_Weak.f n = some (weakC n : Int) := by
  unfold seats_Weak.f seats_Faults.f weakC
  rw [c_may]
  simp only [Option.bind_some]
  by_cases h : mayC n = true
  · have := mayC_of h
    rw [if_pos h, if_pos h, if_pos h, Option.bind_some, wrap64_in (n - 1) (by omega), Int.tdiv_eq_ediv_of_nonneg (by omega), wrap64_in ((n - 1) / 3) (by omega), wrap64_in _ (by omega)]
    congr 1
    omega
  · rw [if_neg h, if_neg h]
    rfl
theorem c_gm (a b : Int) : gauss_May.f a b = some (decide (Gm.Ok (a, b))) := by
  have e : Gm.Ok (a, b) ↔ 0 ≤ a ∧ a < 10007 ∧ 0 ≤ b ∧ b < 10007 := Iff.rfl
  unfold gauss_May.f
  by_cases h1 : a ≥ 0
  · by_cases h2 : a < 10007
    · by_cases h3 : b ≥ 0
      · rw [if_pos h1, if_pos h2, if_pos h3, Option.some.injEq, decide_eq_decide, e]
        omega
      · rw [if_pos h1, if_pos h2, if_neg h3, decide_eq_false (fun h => by rw [e] at h; omega)]
    · rw [if_pos h1, if_neg h2, decide_eq_false (fun h => by rw [e] at h; omega)]
  · rw [if_neg h1, decide_eq_false (fun h => by rw [e] at h; omega)]
def leadC (x : Gm.E) (n : Int) : Int := if mayC n = true ∧ Gm.Ok x then 1 + (x.1 * 10007 + x.2) % n else 0
theorem lead_sum (a b n : Int) (hn : mayC n = true) (h : Gm.Ok (a, b)) : wrap64 (1 + Int.tmod (wrap64 (wrap64 (a * 10007) + b)) n) = 1 + (a * 10007 + b) % n := by
  have hm := mayC_of hn
  obtain ⟨h1, h2, h3, h4⟩ : 0 ≤ a ∧ a < 10007 ∧ 0 ≤ b ∧ b < 10007 := h
  have m1 := Int.emod_nonneg (a * 10007 + b) (show n ≠ 0 by omega)
  have m2 := Int.emod_lt_of_pos (a * 10007 + b) (show 0 < n by omega)
  rw [wrap64_in (a * 10007) (by omega), wrap64_in (a * 10007 + b) (by omega), Int.tmod_eq_emod_of_nonneg (by omega), wrap64_in _ (by omega)]
theorem c_lead (a b n : Int) : coin_Leader.f a b n = some (leadC (a, b) n) := by
  unfold coin_Leader.f leadC
  rw [c_may, Option.bind_some]
  by_cases hn : mayC n = true
  · have hm := mayC_of hn
    rw [if_pos hn, c_gm, Option.bind_some]
    by_cases h : Gm.Ok (a, b)
    · rw [if_pos (decide_eq_true h), if_neg (by omega), if_pos ⟨hn, h⟩, lead_sum a b n hn h]
    · rw [if_neg (by simpa using h), if_neg (fun x => h x.2)]
  · rw [if_neg hn, if_neg (fun x => hn x.1)]
def dealC (tape : ByteArray) (wave n : Int) : List Gm.E := if wave < 1 ∨ mayC n = false then [] else Sa.dealL tape wave.toNat (weakC n)
def toE (l : List Gm.E) : List S23 := l.map fun p => (⟨p.1, p.2⟩ : S23)
theorem c_deal (tape : ByteArray) (wave n : Int) (ht : tape.size ≤ 1048576) (hw : wave ≤ 9223372036854775807) : coin_Deal.f tape wave n = some (toE (dealC tape wave n)) := by
  unfold coin_Deal.f dealC
  by_cases h1 : wave < 1
  · rw [if_pos h1, if_pos (.inl h1)]
    rfl
  · rw [if_neg h1, c_may, Option.bind_some]
    cases hn : mayC n with
    | false =>
      rw [if_neg (by decide), if_pos (.inr rfl)]
      rfl
    | true =>
      have := weakC_le n
      rw [if_pos rfl, c_weak, Option.bind_some, if_pos ⟨by omega, by omega, by omega, hw⟩, if_neg (by simp; omega), Int.toNat_natCast]
      rfl
theorem dealC_length (tape : ByteArray) (wave n : Int) (h1 : ¬ wave < 1) (hn : mayC n = true) : (dealC tape wave n).length = weakC n := by
  unfold dealC
  rw [if_neg (by simp [hn]; omega), Sa.dealL_length]
theorem num4_ok (d : ByteArray) (i : Nat) : 0 ≤ Sa.num4 d i ∧ Sa.num4 d i < 10007 := by
  unfold Sa.num4
  omega
theorem dealC_ok (tape : ByteArray) (wave n : Int) : ∀ c ∈ dealC tape wave n, Gm.Ok c := by
  intro c hc
  unfold dealC at hc
  split at hc
  · cases hc
  · unfold Sa.dealL at hc
    obtain ⟨k, _, rfl⟩ := List.mem_map.1 hc
    exact ⟨(num4_ok _ _).1, (num4_ok _ _).2, (num4_ok _ _).1, (num4_ok _ _).2⟩
theorem wfI {n : Int} (h : (Lit.int .i64 n).wf = true) : -9223372036854775808 ≤ n ∧ n ≤ 9223372036854775807 := by
  simp [Lit.wf, IntKind.min, IntKind.max, IntKind.signed, IntKind.bits] at h
  omega
theorem shown : selvedgelaw12_shown.f = some true := by
  unfold selvedgelaw12_shown.f
  have e1 : mayC 4 = true := by decide
  have l1 : leadC (0, 0) 4 = 1 := by decide
  have l2 : leadC (5, 2) 4 = 2 := by decide
  rw [c_deal _ _ _ (by decide) (by decide), Option.bind_some, c_lead, Option.bind_some, l1, if_pos rfl, c_lead, Option.bind_some, l2, if_pos rfl]
  unfold toE
  rw [List.length_map, dealC_length _ _ _ (by decide) e1]
  rfl
theorem c_rmay (n : Int) : selvedgeref05_May.f n = some (mayC n) := by
  unfold selvedgeref05_May.f mayC
  by_cases h0 : n = 4
  · rw [if_pos h0, decide_eq_true (by omega)]
  · by_cases h1 : n > 4
    · by_cases h2 : n ≤ 64
      · rw [if_neg h0, if_pos h1, if_pos h2, wrap64_in _ (by omega), Int.tmod_eq_emod_of_nonneg (by omega)]
        congr 1
        rw [Bool.eq_iff_iff, beq_iff_eq, decide_eq_true_iff]
        omega
      · rw [if_neg h0, if_pos h1, if_neg h2, decide_eq_false (by omega)]
    · rw [if_neg h0, if_neg h1, decide_eq_false (by omega)]
theorem c_rweak (n : Int) : selvedgeref05_Weak.f n = some (weakC n : Int) := by
  unfold selvedgeref05_Weak.f weakC
  rw [c_rmay, Option.bind_some]
  by_cases h : mayC n = true
  · have := mayC_of h
    rw [if_pos h, if_pos h, wrap64_in (n - 1) (by omega), Int.tdiv_eq_ediv_of_nonneg (by omega), wrap64_in ((n - 1) / 3) (by omega), wrap64_in _ (by omega)]
    congr 1
    omega
  · rw [if_neg h, if_neg h]
    rfl
theorem c_rgm (a b : Int) : selvedgeref03_May.f a b = some (decide (Gm.Ok (a, b))) := by
  have e : Gm.Ok (a, b) ↔ 0 ≤ a ∧ a < 10007 ∧ 0 ≤ b ∧ b < 10007 := Iff.rfl
  unfold selvedgeref03_May.f
  by_cases h1 : a ≥ 0
  · by_cases h2 : a < 10007
    · by_cases h3 : b ≥ 0
      · rw [if_pos h1, if_pos h2, if_pos h3, Option.some.injEq, decide_eq_decide, e]
        omega
      · rw [if_pos h1, if_pos h2, if_neg h3, decide_eq_false (fun h => by rw [e] at h; omega)]
    · rw [if_pos h1, if_neg h2, decide_eq_false (fun h => by rw [e] at h; omega)]
  · rw [if_neg h1, decide_eq_false (fun h => by rw [e] at h; omega)]
theorem c_rlead (a b n : Int) : selvedgeref12_Leader.f a b n = some (leadC (a, b) n) := by
  unfold selvedgeref12_Leader.f leadC
  rw [c_rmay, Option.bind_some, c_rgm, Option.bind_some]
  by_cases hn : mayC n = true
  · have hm := mayC_of hn
    rw [if_pos hn]
    by_cases h : Gm.Ok (a, b)
    · rw [if_pos (decide_eq_true h), if_neg (by omega), if_pos ⟨hn, h⟩, lead_sum a b n hn h]
    · rw [if_neg (by simpa using h), if_neg (fun x => h x.2)]
  · rw [if_neg hn, if_neg (fun x => hn x.1)]
theorem bt_nb (d : ByteArray) (i : Nat) : bt d (i : Int) = (Sa.nb d i : Int) := by
  unfold bt Sa.nb
  rw [Int.toNat_natCast]
  by_cases h : i < d.size
  · rw [dif_pos h, List.getD_eq_getElem?_getD, List.getElem?_eq_getElem (by rw [Array.length_toList]; exact h)]
    rfl
  · rw [dif_neg h, List.getD_eq_getElem?_getD, List.getElem?_eq_none (by rw [Array.length_toList]; exact Nat.le_of_not_lt h)]
    rfl
theorem four_step (d : ByteArray) (p i v k : Nat) (hp : p ≤ 4) (h1 : i < p + 4) (hd : d.size = 32) (hv : v < 16777216) :
    selvedgeref12_four.l0 (k + 1) d (p : Int) (v : Int) (i : Int) = selvedgeref12_four.l0 k d (p : Int) ((v * 256 + Sa.nb d i : Nat) : Int) ((i + 1 : Nat) : Int) := by
  have hb := Sa.nb_lt d i
  rw [selvedgeref12_four.l0, wrap64_in ((p : Int) + 4) (by omega), if_pos (by omega), if_pos (by omega), if_pos (by omega), bt_nb, wrap64_in ((v : Int) * 256) (by omega), wrap64_in (Sa.nb d i : Int) (by omega), wrap64_in _ (by omega), wrap64_in _ (by omega)]
  rw [show (v : Int) * 256 + (Sa.nb d i : Int) = ((v * 256 + Sa.nb d i : Nat) : Int) by omega, show (i : Int) + 1 = ((i + 1 : Nat) : Int) by omega]
theorem c_four (d : ByteArray) (p k : Nat) (hp : p ≤ 4) (hd : d.size = 32) : selvedgeref12_four.f (k + 1 + 1 + 1 + 1 + 1) d (p : Int) = some (Sa.num4 d p) := by
  have h0 := Sa.nb_lt d p
  have h1 := Sa.nb_lt d (p + 1)
  have h2 := Sa.nb_lt d (p + 2)
  have h3 := Sa.nb_lt d (p + 3)
  unfold selvedgeref12_four.f
  have s0 : selvedgeref12_four.l0 (k + 1 + 1 + 1 + 1 + 1) d (p : Int) 0 (p : Int) = _ := four_step d p p 0 (k + 1 + 1 + 1 + 1) hp (by omega) hd (by omega)
  have s1 := four_step d p (p + 1) (0 * 256 + Sa.nb d p) (k + 1 + 1 + 1) hp (by omega) hd (by omega)
  have s2 := four_step d p (p + 2) ((0 * 256 + Sa.nb d p) * 256 + Sa.nb d (p + 1)) (k + 1 + 1) hp (by omega) hd (by omega)
  have s3 := four_step d p (p + 3) (((0 * 256 + Sa.nb d p) * 256 + Sa.nb d (p + 1)) * 256 + Sa.nb d (p + 2)) (k + 1) hp (by omega) hd (by omega)
  refine (s0.trans (s1.trans (s2.trans s3))).trans ?_
  rw [selvedgeref12_four.l0, wrap64_in ((p : Int) + 4) (by omega), if_neg (by omega), Int.tmod_eq_emod_of_nonneg (by omega)]
  unfold Sa.num4
  rw [Option.some.injEq]
  omega
theorem four_ev (d : ByteArray) (p : Nat) (hp : p ≤ 4) (hd : d.size = 32) : Fl.Ev (fun k => selvedgeref12_four.f k d (p : Int)) (Sa.num4 d p) :=
  ⟨5, fun k hk => by
    obtain ⟨j, rfl⟩ : ∃ j, k = j + 5 := ⟨k - 5, by omega⟩
    exact c_four d p j hp hd⟩
theorem toE_snoc (l : List Gm.E) (c : Gm.E) : toE (l ++ [c]) = toE l ++ [(⟨c.1, c.2⟩ : S23)] := by simp [toE]
theorem toE_length (l : List Gm.E) : (toE l).length = l.length := by simp [toE]
theorem rdeal_l (tape : ByteArray) (wave n : Int) (ht : tape.size ≤ 1048576) (h1 : ¬ wave < 1) (hw : wave ≤ 9223372036854775807) : ∀ (m i : Nat), i + m = weakC n →
    Fl.Ev (fun k => selvedgeref12_Deal.l0 k tape wave n (toE (Sa.dealL tape wave.toNat i)) (i : Int)) (toE (Sa.dealL tape wave.toNat (weakC n)))
  | 0, i, hi => by
    refine Fl.Ev.step (g := fun _ => some (toE (Sa.dealL tape wave.toNat (weakC n)))) (Fl.Ev.const fun _ => rfl) fun k => ?_
    rw [selvedgeref12_Deal.l0, c_rweak, Option.bind_some, if_neg (by omega), show i = weakC n by omega]
  | m + 1, i, hi => by
    have hwk := weakC_le n
    have ih := rdeal_l tape wave n ht h1 hw m (i + 1) (by omega)
    have hlt : (i : Int) < (weakC n : Int) := by omega
    have w1 : wrap64 ((i : Int) + 1) = ((i + 1 : Nat) : Int) := by rw [wrap64_in _ (by omega)]; omega
    have b1 : 0 ≤ wave ∧ wave < 18446744073709551616 := ⟨by omega, by omega⟩
    have b2 : 0 ≤ (i : Int) ∧ (i : Int) < 18446744073709551616 := ⟨by omega, by omega⟩
    have hlen : (toE (Sa.dealL tape wave.toNat i)).length < 8796093022208 := by rw [toE_length, Sa.dealL_length]; omega
    have s1 := Sa.textB_le tape
    have s2 := Sa.numB_le wave.toNat
    have s3 := Sa.numB_le i
    have hsz := Sa.dealS_size tape wave.toNat i
    have hd := Sa.dealD_size tape wave.toNat i
    have r1 : selvedgeref01_Text.f tape = some (Sa.textB tape) := if_pos (by omega)
    have r2 : selvedgeref01_Num.f wave = some (Sa.numB wave.toNat) := if_pos ⟨by omega, by omega⟩
    have r3 : selvedgeref01_Num.f (i : Int) = some (Sa.numB (i : Int).toNat) := if_pos ⟨by omega, by omega⟩
    rw [Int.toNat_natCast] at r3
    have r4 : selvedgeref02_Sum.f ((((⟨#[99]⟩ : ByteArray) ++ Sa.textB tape) ++ Sa.numB wave.toNat) ++ Sa.numB i) = some (Sa.dealD tape wave.toNat i) := if_pos (Nat.le_trans hsz (by omega))
    have hE : Sa.dealE tape wave.toNat i = (Sa.num4 (Sa.dealD tape wave.toNat i) 0, Sa.num4 (Sa.dealD tape wave.toNat i) 4) := rfl
    rw [Sa.dealL_succ, toE_snoc, hE] at ih
    generalize Sa.dealD tape wave.toNat i = D at hd ih r4
    generalize Sa.textB tape = TX at s1 r1 r4
    generalize Sa.numB wave.toNat = WX at s2 r2 r4
    generalize Sa.numB i = IX at s3 r3 r4
    clear hsz
    have q1 : 1 + TX.size ≤ 9223372036854775807 := by omega
    have q2 : ((⟨#[99]⟩ : ByteArray) ++ TX).size + WX.size ≤ 9223372036854775807 := by rw [ByteArray.size_append, show (⟨#[99]⟩ : ByteArray).size = 1 from rfl]; omega
    have q3 : (((⟨#[99]⟩ : ByteArray) ++ TX) ++ WX).size + IX.size ≤ 9223372036854775807 := by rw [ByteArray.size_append, ByteArray.size_append, show (⟨#[99]⟩ : ByteArray).size = 1 from rfl]; omega
    have e0 : Fl.Ev (fun k => selvedgeref12_four.f k D 0) (Sa.num4 D 0) := four_ev D 0 (by omega) hd
    have e4 : Fl.Ev (fun k => selvedgeref12_four.f k D 4) (Sa.num4 D 4) := four_ev D 4 (by omega) hd
    refine Fl.Ev.step (g := fun k => (selvedgeref12_four.f k D 0).bind fun t122 => ((selvedgeref12_four.f k D 4).bind fun t123 => selvedgeref12_Deal.l0 k tape wave n (toE (Sa.dealL tape wave.toNat i) ++ [(⟨t122, t123⟩ : S23)]) ((i + 1 : Nat) : Int))) (e0.bind (g := fun k t122 => ((selvedgeref12_four.f k D 4).bind fun t123 => selvedgeref12_Deal.l0 k tape wave n (toE (Sa.dealL tape wave.toNat i) ++ [(⟨t122, t123⟩ : S23)]) ((i + 1 : Nat) : Int))) (e4.bind (g := fun k t123 => selvedgeref12_Deal.l0 k tape wave n (toE (Sa.dealL tape wave.toNat i) ++ [(⟨Sa.num4 D 0, t123⟩ : S23)]) ((i + 1 : Nat) : Int)) ih)) fun k => ?_
    have u1 : IntKind.u64.wrap wave = wave := u64_wrap_id _ b1.1 b1.2
    have u2 : IntKind.u64.wrap (i : Int) = (i : Int) := u64_wrap_id _ b2.1 b2.2
    rw [selvedgeref12_Deal.l0, c_rweak, Option.bind_some, if_pos hlt, u1, u2, w1]
    rw [r1, Option.bind_some, if_pos q1, r2, Option.bind_some, if_pos q2, r3, Option.bind_some, if_pos q3, r4, Option.bind_some]
    simp only [if_pos hlen]
theorem rdeal_ev (tape : ByteArray) (wave n : Int) (ht : tape.size ≤ 1048576) (hw : wave ≤ 9223372036854775807) : Fl.Ev (fun k => selvedgeref12_Deal.f k tape wave n) (toE (dealC tape wave n)) := by
  have hno : Fl.Ev (fun k => selvedgeref12_Deal.j0 k tape wave n true) ([] : List S23) := Fl.Ev.step (g := fun _ => some ([] : List S23)) (Fl.Ev.const fun _ => rfl) fun k => by rw [selvedgeref12_Deal.j0, if_pos rfl]
  unfold dealC
  by_cases h1 : wave < 1
  · rw [if_pos (.inl h1)]
    refine hno.of_eq fun k => ?_
    unfold selvedgeref12_Deal.f
    rw [c_rmay, Option.bind_some, if_pos h1]
  · cases hn : mayC n with
    | false =>
      rw [if_pos (.inr rfl)]
      refine hno.of_eq fun k => ?_
      unfold selvedgeref12_Deal.f
      rw [c_rmay, Option.bind_some, if_neg h1, hn]
      rfl
    | true =>
      rw [if_neg (by simp; omega)]
      refine (Fl.Ev.step (f := fun k => selvedgeref12_Deal.j0 k tape wave n false) (rdeal_l tape wave n ht h1 hw (weakC n) 0 (by omega)) fun k => ?_).of_eq fun k => ?_
      · rw [selvedgeref12_Deal.j0, if_neg (by decide)]
        rfl
      · unfold selvedgeref12_Deal.f
        rw [c_rmay, Option.bind_some, if_neg h1, hn]
        rfl
theorem eE_toE (l : List Gm.E) : eE (toE l) = l := by
  unfold eE toE
  rw [List.map_map]
  exact List.map_id' _
def ownC (tape : ByteArray) (wave n id : Int) : Gm.E := (Fl.ofE (dealC tape wave n) id).1.2
theorem ofE_zero (l : List Gm.E) (id : Int) (h : (Fl.ofE l id).2 ≠ 0) : (Fl.ofE l id).1.2 = (0, 0) := by
  unfold Fl.ofE at h ⊢
  split
  · rfl
  · split
    · rfl
    · split
      · rfl
      · rename_i h1 h2 h3
        rw [if_neg h1, if_neg h2, if_neg h3] at h
        exact absurd rfl h
theorem c_own (tape : ByteArray) (wave n id : Int) (ht : tape.size ≤ 1048576) (hw : wave ≤ 9223372036854775807) : coin_Own.f tape wave n id = some ((ownC tape wave n id).1, (ownC tape wave n id).2) := by
  unfold coin_Own.f share_Of.f ownC
  rw [c_deal tape wave n ht hw, Option.bind_some, Option.bind_some, eE_toE]
  by_cases h : (Fl.ofE (dealC tape wave n) id).2 = 0
  · rw [if_pos h]
  · rw [if_neg h, ofE_zero _ _ h]
theorem rmay (a b : Int) : selvedgeref03_May.f a b = some (decide (Gm.Ok (a, b))) := by
  have e : Gm.Ok (a, b) ↔ 0 ≤ a ∧ a < 10007 ∧ 0 ≤ b ∧ b < 10007 := Iff.rfl
  unfold selvedgeref03_May.f
  by_cases h1 : a ≥ 0
  · by_cases h2 : a < 10007
    · by_cases h3 : b ≥ 0
      · rw [if_pos h1, if_pos h2, if_pos h3, Option.some.injEq, decide_eq_decide, e]
        omega
      · rw [if_pos h1, if_pos h2, if_neg h3, decide_eq_false (fun h => by rw [e] at h; omega)]
    · rw [if_pos h1, if_neg h2, decide_eq_false (fun h => by rw [e] at h; omega)]
  · rw [if_neg h1, decide_eq_false (fun h => by rw [e] at h; omega)]
theorem bp (a c : Int) (h0 : 0 ≤ a) (h1 : a < 10007) (h2 : 0 ≤ c) (h3 : c < 10007) : 0 ≤ a * c ∧ a * c ≤ 100120036 :=
  ⟨Int.mul_nonneg h0 h2, Int.le_trans (Int.mul_le_mul (show a ≤ 10006 by omega) (show c ≤ 10006 by omega) h2 (by omega)) (by decide)⟩
theorem rmulF (a b c d : Int) (h : Gm.Ok (a, b)) (h2 : Gm.Ok (c, d)) : selvedgeref03_Mul.f a b c d = some (Gm.mul (a, b) (c, d)) := by
  have p1 := bp a c h.1 h.2.1 h2.1 h2.2.1
  have p2 := bp b d h.2.2.1 h.2.2.2 h2.2.2.1 h2.2.2.2
  have p3 := bp a d h.1 h.2.1 h2.2.2.1 h2.2.2.2
  have p4 := bp b c h.2.2.1 h.2.2.2 h2.1 h2.2.1
  unfold selvedgeref03_Mul.f Gm.mul Gm.gmul Gm.red
  rw [rmay, rmay]
  simp only [Option.bind_some, h, h2, decide_true, if_true]
  generalize a * c = u at *
  generalize b * d = v at *
  generalize a * d = s at *
  generalize b * c = t at *
  rw [wrap64_in u (by omega), wrap64_in v (by omega), wrap64_in s (by omega), wrap64_in t (by omega), wrap64_in (u + 100140049) (by omega), wrap64_in _ (by omega), wrap64_in _ (by omega), Int.tmod_eq_emod_of_nonneg (by omega), Int.tmod_eq_emod_of_nonneg (by omega)]
  congr 2
  omega
theorem rmulN (a b c d : Int) (h : ¬ (Gm.Ok (a, b) ∧ Gm.Ok (c, d))) : selvedgeref03_Mul.f a b c d = some (0, 0) := by
  unfold selvedgeref03_Mul.f
  rw [rmay, rmay]
  simp only [Option.bind_some, decide_eq_true_eq]
  by_cases h1 : Gm.Ok (a, b)
  · rw [if_pos h1, if_neg (fun h2 => h ⟨h1, h2⟩)]
  · rw [if_neg h1]
theorem raddF (a b c d : Int) (h : Gm.Ok (a, b)) (h2 : Gm.Ok (c, d)) : selvedgeref03_Add.f a b c d = some (Gm.add (a, b) (c, d)) := by
  have h1' := h
  have h2' := h2
  unfold Gm.Ok at h1' h2'
  simp only at h1' h2'
  unfold selvedgeref03_Add.f Gm.add Gm.gadd Gm.red
  rw [rmay, rmay]
  simp only [Option.bind_some, h, h2, decide_true, if_true]
  rw [wrap64_in _ (by omega), wrap64_in _ (by omega), Int.tmod_eq_emod_of_nonneg (by omega), Int.tmod_eq_emod_of_nonneg (by omega)]
theorem raddN (a b c d : Int) (h : ¬ (Gm.Ok (a, b) ∧ Gm.Ok (c, d))) : selvedgeref03_Add.f a b c d = some (0, 0) := by
  unfold selvedgeref03_Add.f
  rw [rmay, rmay]
  simp only [Option.bind_some, decide_eq_true_eq]
  by_cases h1 : Gm.Ok (a, b)
  · rw [if_pos h1, if_neg (fun h2 => h ⟨h1, h2⟩)]
  · rw [if_neg h1]
theorem qmul (x y : Gm.E) : selvedgeref03_Mul.f x.1 x.2 y.1 y.2 = some (Fl.opE Gm.mul x y) := by
  unfold Fl.opE
  by_cases h : Gm.Ok x ∧ Gm.Ok y
  · rw [if_pos h]; exact rmulF _ _ _ _ h.1 h.2
  · rw [if_neg h]; exact rmulN _ _ _ _ h
theorem qadd (x y : Gm.E) : selvedgeref03_Add.f x.1 x.2 y.1 y.2 = some (Fl.opE Gm.add x y) := by
  unfold Fl.opE
  by_cases h : Gm.Ok x ∧ Gm.Ok y
  · rw [if_pos h]; exact raddF _ _ _ _ h.1 h.2
  · rw [if_neg h]; exact raddN _ _ _ _ h
theorem rd_is (l : List S23) {i : Nat} (hi : i < l.length) : ((rd_T23 l (i : Int)).f0, (rd_T23 l (i : Int)).f1) = (eE l).getD i (0, 0) := by
  unfold eE rd_T23
  simp [List.getElem?_eq_getElem hi]
theorem len_ok {l : List S23} (h : l.length * 16 ≤ 140737488351232) : l.length ≤ 9223372036854775000 := by omega
theorem succ_ok {i n : Nat} (h : i < n) (hn : n ≤ 9223372036854775000) : wrap64 ((i : Int) + 1) = ((i + 1 : Nat) : Int) := by rw [wrap64_in _ (by omega)]; omega
theorem refEval_l (l : List S23) (x : Gm.E) (hl : l.length ≤ 9223372036854775000) (r : Nat) : ∀ (i : Nat) (o : Gm.E), i ≤ l.length → selvedgeref04_Eval.l0 (r + i + 1) l ((i : Int) - 1) x.1 x.2 o.1 o.2 = some (Fl.evFrom (eE l) x i o)
  | 0, o, _ => by
    rw [selvedgeref04_Eval.l0, if_neg (by omega)]
    rfl
  | i + 1, o, hi => by
    have e : (((i + 1 : Nat) : Int) - 1) = (i : Int) := by omega
    have hw : wrap64 ((i : Int) - 1) = (i : Int) - 1 := wrap64_in _ (by omega)
    rw [show r + (i + 1) + 1 = (r + i + 1) + 1 by omega, selvedgeref04_Eval.l0, e, if_pos (by omega), qmul, Option.bind_some, if_pos (by omega), if_pos (by omega)]
    have e2 := qadd (Fl.opE Gm.mul o x) ((rd_T23 l (i : Int)).f0, (rd_T23 l (i : Int)).f1)
    simp only at e2
    rw [e2, Option.bind_some, hw, rd_is l (by omega), Fl.evFrom]
    exact refEval_l l x hl r i _ (by omega)
theorem refEval (l : List S23) (x : Gm.E) (hl : l.length ≤ 9223372036854775000) (r : Nat) : selvedgeref04_Eval.f (r + l.length + 1) l x.1 x.2 = some (Fl.evE (eE l) x) := by
  unfold selvedgeref04_Eval.f Fl.evE
  rw [wrap64_in _ (by omega), eE_length]
  exact refEval_l l x hl r l.length (0, 0) (Nat.le_refl _)
theorem refOf_a (l : List S23) (a : Int) (hl : l.length ≤ 9223372036854775000) (h : ∀ c ∈ eE l, Gm.Ok c) (r : Nat) : ∀ (m i : Nat), i + m = l.length → selvedgeref04_Of.l0 (r + m + l.length + 2) l a i = some (a, (Fl.evE (eE l) (a, 0)).1, (Fl.evE (eE l) (a, 0)).2, 0)
  | 0, i, hi => by
    rw [selvedgeref04_Of.l0, if_neg (by omega)]
    have := refEval l (a, 0) hl r
    simp only at this
    rw [show r + 0 + l.length + 1 = r + l.length + 1 by omega, this]
    rfl
  | m + 1, i, hi => by
    have ok : Gm.Ok ((rd_T23 l (i : Int)).f0, (rd_T23 l (i : Int)).f1) := by rw [rd_is l (by omega)]; exact Fl.getD_ok h i
    rw [show r + (m + 1) + l.length + 2 = (r + m + l.length + 2) + 1 by omega, selvedgeref04_Of.l0, if_pos (by omega), if_pos (by omega), rmay, Option.bind_some, if_pos (by simpa using ok), succ_ok (show i < l.length by omega) hl]
    exact refOf_a l a hl h r m (i + 1) (by omega)
theorem refOf_b (l : List S23) (a : Int) (hl : l.length ≤ 9223372036854775000) (r : Nat) : ∀ (m i : Nat), i + m = l.length → (∃ j, i ≤ j ∧ j < l.length ∧ ¬ Gm.Ok ((eE l).getD j (0, 0))) → selvedgeref04_Of.l0 (r + m + l.length + 2) l a i = some (0, 0, 0, 1)
  | 0, i, hi, h => by obtain ⟨j, h1, h2, _⟩ := h; omega
  | m + 1, i, hi, h => by
    rw [show r + (m + 1) + l.length + 2 = (r + m + l.length + 2) + 1 by omega, selvedgeref04_Of.l0, if_pos (by omega), if_pos (by omega), rmay, Option.bind_some, rd_is l (by omega), succ_ok (show i < l.length by omega) hl]
    by_cases ok : Gm.Ok ((eE l).getD i (0, 0))
    · rw [if_pos (by simpa using ok)]
      obtain ⟨j, h1, h2, h3⟩ := h
      have : j ≠ i := by rintro rfl; exact h3 ok
      exact refOf_b l a hl r m (i + 1) (by omega) ⟨j, by omega, h2, h3⟩
    · rw [if_neg (by simpa using ok)]
theorem refOf (l : List S23) (a : Int) (hl : l.length ≤ 9223372036854775000) : selvedgeref04_Of.f (l.length + l.length + 3) l a = some ((Fl.ofE (eE l) a).1.1, (Fl.ofE (eE l) a).1.2.1, (Fl.ofE (eE l) a).1.2.2, (Fl.ofE (eE l) a).2) := by
  unfold selvedgeref04_Of.f Fl.ofE
  rw [show l.length + l.length + 3 = (0 + l.length + l.length + 2) + 1 by omega]
  by_cases h1 : a < 1
  · rw [if_pos h1, if_pos h1, selvedgeref04_Of.j0, if_pos rfl]
  · rw [if_neg h1, if_neg h1]
    by_cases h2 : a > 64
    · rw [decide_eq_true h2, if_pos h2, selvedgeref04_Of.j0, if_pos rfl]
    · rw [decide_eq_false h2, if_neg h2, selvedgeref04_Of.j0, if_neg (by decide)]
      cases h3 : Fl.oddE (eE l) with
      | false =>
        rw [if_neg (by decide)]
        exact refOf_a l a hl ((Fl.oddE_iff _).1 h3) 0 l.length 0 (by omega)
      | true =>
        rw [if_pos rfl]
        refine refOf_b l a hl 0 l.length 0 (by omega) ?_
        refine Classical.byContradiction fun hn => ?_
        have : Fl.oddE (eE l) = false := (Fl.oddE_iff _).2 fun c hc => by
          obtain ⟨j, hj, rfl⟩ := List.getElem_of_mem hc
          refine Classical.byContradiction fun ho => hn ⟨j, Nat.zero_le _, by rw [← eE_length]; exact hj, ?_⟩
          rw [List.getD_eq_getElem?_getD, List.getElem?_eq_getElem hj]
          exact ho
        rw [this] at h3
        cases h3
theorem rown_ev (tape : ByteArray) (wave n id : Int) (ht : tape.size ≤ 1048576) (hw : wave ≤ 9223372036854775807) : Fl.Ev (fun k => selvedgeref12_Own.f k tape wave n id) ((ownC tape wave n id).1, (ownC tape wave n id).2) := by
  have hl : (dealC tape wave n).length ≤ 22 := by
    unfold dealC
    split
    · exact Nat.zero_le _
    · rw [Sa.dealL_length]; exact weakC_le n
  have h1 := rdeal_ev tape wave n ht hw
  have h2 := refOf (toE (dealC tape wave n)) id (by rw [toE_length]; omega)
  have h3 : Fl.Ev (fun k => selvedgeref04_Of.f k (toE (dealC tape wave n)) id) _ := Fl.Ev.of_mono (fun k r h => selvedgeref04_Of.mono _ _ _ r h) h2
  rw [eE_toE] at h3
  exact (h1.bind (g := fun k t161 => ((selvedgeref04_Of.f k t161 id).bind fun bt164 => (some (bt164.2.1, bt164.2.2.1)))) (h3.bind (g := fun k bt164 => some (bt164.2.1, bt164.2.2.1)) (Fl.Ev.const fun _ => rfl))).of_eq fun k => by unfold selvedgeref12_Own.f; rfl
theorem c_third (r : Int) : vertex_Third.f r = some (decide (3 ≤ r ∧ r % 3 = 0)) := by
  unfold vertex_Third.f
  by_cases h : r ≥ 3
  · rw [if_pos h, Int.tmod_eq_emod_of_nonneg (by omega)]
    congr 1
    rw [Bool.eq_iff_iff, beq_iff_eq, decide_eq_true_iff]
    omega
  · rw [if_neg h, decide_eq_false (by omega)]
theorem c_wave (r : Int) (h3 : 3 ≤ r ∧ r % 3 = 0) (hr : r ≤ 9223372036854775807) : vertex_Wave.f r = some (r / 3) := by
  unfold vertex_Wave.f
  rw [if_neg (by omega), wrap64_in (r - 1) (by omega), Int.tdiv_eq_ediv_of_nonneg (by omega), wrap64_in ((r - 1) / 3) (by omega), wrap64_in _ (by omega)]
  congr 1
  omega
def fitsC (tape : ByteArray) (n id r : Int) (x : Gm.E) : Bool := if 3 ≤ r ∧ r % 3 = 0 then decide (x = ownC tape (r / 3) n id) else decide (x = (0, 0))
theorem eqC (a b : Int) (y : Gm.E) : (a == y.1 && (b == y.2)) = decide (((a, b) : Gm.E) = y) := by
  obtain ⟨u, v⟩ := y
  rw [Bool.eq_iff_iff]; simp
theorem c_fits (tape : ByteArray) (n id r : Int) (l2 : List S193) (l3 : List ByteArray) (a b : Int) (ht : tape.size ≤ 1048576) (hr : r ≤ 9223372036854775807) : coin_Fits.f tape n id r l2 l3 a b = some (fitsC tape n id r (a, b)) := by
  unfold coin_Fits.f fitsC
  rw [c_third, Option.bind_some]
  by_cases h : 3 ≤ r ∧ r % 3 = 0
  · rw [if_pos (decide_eq_true h), if_pos h, c_wave r h hr, Option.bind_some, c_own _ _ _ _ ht (by omega), Option.bind_some, eqC]
  · rw [if_neg (by simpa using h), if_neg h]
    congr 1
    exact eqC a b (0, 0)
theorem c_rthird (r : Int) : selvedgeref08_Third.f r = some (decide (3 ≤ r ∧ r % 3 = 0)) := by
  unfold selvedgeref08_Third.f
  by_cases h : r > 0
  · rw [if_pos h, Int.tmod_eq_emod_of_nonneg (by omega)]
    congr 1
    rw [Bool.eq_iff_iff, beq_iff_eq, decide_eq_true_iff]
    omega
  · rw [if_neg h, decide_eq_false (by omega)]
theorem c_rwave (r : Int) (h3 : 3 ≤ r ∧ r % 3 = 0) (hr : r ≤ 9223372036854775807) : selvedgeref08_Wave.f r = some (r / 3) := by
  unfold selvedgeref08_Wave.f
  rw [if_neg (by omega), if_pos (by rw [Int.tmod_eq_emod_of_nonneg (by omega)]; exact h3.2), Int.tdiv_eq_ediv_of_nonneg (by omega), wrap64_in _ (by omega)]
theorem rfits_ev (tape : ByteArray) (n id r : Int) (l2 : List S193) (l3 : List ByteArray) (a b : Int) (ht : tape.size ≤ 1048576) (hr : r ≤ 9223372036854775807) : Fl.Ev (fun k => selvedgeref12_Fits.f k tape n id r l2 l3 a b) (fitsC tape n id r (a, b)) := by
  unfold fitsC
  by_cases h : 3 ≤ r ∧ r % 3 = 0
  · rw [if_pos h]
    refine ((rown_ev tape (r / 3) n id ht (by omega)).bind (g := fun k bt176 => (some (a == bt176.1 && (b == bt176.2)))) (Fl.Ev.const fun _ => by rw [eqC])).of_eq fun k => ?_
    unfold selvedgeref12_Fits.f
    rw [c_rthird, Option.bind_some, if_pos (decide_eq_true h), c_rwave r h hr, Option.bind_some]
  · rw [if_neg h]
    refine Fl.Ev.const fun k => ?_
    unfold selvedgeref12_Fits.f
    rw [c_rthird, Option.bind_some, if_neg (by simpa using h)]
    congr 1
    exact eqC a b (0, 0)
theorem CoinFits : selvedgelaw12_CoinFits.Pure := by
  intro x hx hb
  have ht : x.f0.size ≤ 1048576 := by unfold B40 at hb; simp only at hb; omega
  have hr := (wfI hx.2.2.1.2.1).2
  obtain ⟨k1, h1⟩ := rfits_ev x.f0 x.f1 x.f2.f0 x.f2.f1 x.f2.f2 x.f2.f3 x.f2.f4.f0 x.f2.f4.f1 ht hr
  have h1 : ∀ k, k1 ≤ k → selvedgeref12_Fits.f k _ _ _ _ _ _ _ _ = _ := h1
  refine ⟨k1, ?_⟩
  unfold selvedgelaw12_CoinFits.f
  rw [shown, Option.bind_some, if_pos rfl, c_fits _ _ _ _ _ _ _ _ ht hr, Option.bind_some, h1 _ (Nat.le_refl _), Option.bind_some, if_pos (by simp), c_lead, Option.bind_some, c_rlead, Option.bind_some]
  simp

end Go.Proofs.Ytdppmkcahfjceaa.Pure
