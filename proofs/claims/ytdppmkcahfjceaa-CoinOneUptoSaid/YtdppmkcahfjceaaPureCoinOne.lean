/- Proved: the pure half of the law CoinOne of chapter 12 (what the walked program computes is 'true'). Conditions: those of its row, no other. -/
import Derived.Test.YtdppmkcahfjceaaArgCoinOne
import Derived.Test.YtdppmkcahfjceaaVCoinOneSz
import Derived.Test.YtdppmkcahfjceaaVCoinOneDl
import Derived.IntWalk
namespace Go.Proofs.Ytdppmkcahfjceaa.Pure
open Go.IntWalk Go.RowKit Go.Proofs.Ytdppmkcahfjceaa.PCoinOne Go.Proofs.YtdppmkcahfjceaaW.PrintWords Go.Proofs.YtdppmkcahfjceaaW.PrintLast
set_option linter.unusedSimpArgs false
set_option linter.unusedVariables false

def mayC (n : Int) : Bool := decide (4 ≤ n ∧ n ≤ 64 ∧ n % 3 = 1)
theorem c_may (n : Int) : seats_May.f n = some (mayC n) := by
  unfold seats_May.f mayC
  by_cases h1 : n ≥ 4
  · by_cases h2 : n ≤ 64
    · rw [if_pos h1, if_pos h2, Int.tmod_eq_emod_of_nonneg (by omega)]
      congr 1
      rw [Bool.eq_iff_iff, beq_iff_eq, decide_eq_true_iff]
      omega
    · rw [if_pos h1, if_neg h2, decide_eq_false (by omega)]
  · rw [if_neg h1, decide_eq_false (by omega)]
theorem mayC_of {n : Int} (h : mayC n = true) : 4 ≤ n ∧ n ≤ 64 ∧ n % 3 = 1 := of_decide_eq_true h
def weakC (n : Int) : Nat := if mayC n = true then ((n - 1) / 3).toNat + 1 else 0
theorem weakC_le (n : Int) : weakC n ≤ 22 := by
  unfold weakC
  by_cases h : mayC n = true
  · have := mayC_of h; rw [if_pos h]; omega
  · rw [if_neg h]; omega
theorem weakC_pos {n : Int} (h : mayC n = true) : 2 ≤ weakC n := by
  have := mayC_of h
  unfold weakC
  rw [if_pos h]
  omega
theorem c_weak (n : Int) : seats_Weak.f n = some (weakC n : Int) := by
  unfold seats_Weak.f seats_Faults.f weakC
  rw [c_may]
  simp only [Option.bind_some]
  by_cases h : mayC n = true
  · have := mayC_of h
    rw [if_pos h, if_pos h, if_pos h, Option.bind_some, wrap64_in (n - 1) (by omega), Int.tdiv_eq_ediv_of_nonneg (by omega), wrap64_in ((n - 1) / 3) (by omega), wrap64_in _ (by omega)]
    congr 1
    omega
  · rw [if_neg h, if_neg h]
    rfl
theorem c_gm (a b : Int) : gauss_May.f a b = some (decide (Gm.Ok (a, b))) := by
  have e : Gm.Ok (a, b) ↔ 0 ≤ a ∧ a < 10007 ∧ 0 ≤ b ∧ b < 10007 := Iff.rfl
  unfold gauss_May.f
  by_cases h1 : a ≥ 0
  · by_cases h2 : a < 10007
    · by_cases h3 : b ≥ 0
      · rw [if_pos h1, if_pos h2, if_pos h3, Option.some.injEq, decide_eq_decide, e]
        omega
      · rw [if_pos h1, if_pos h2, if_neg h3, decide_eq_false (fun h => by rw [e] at h; omega)]
    · rw [if_pos h1, if_neg h2, decide_eq_false (fun h => by rw [e] at h; omega)]
  · rw [if_neg h1, decide_eq_false (fun h => by rw [e] at h; omega)]
def leadC (x : Gm.E) (n : Int) : Int := if mayC n = true ∧ Gm.Ok x then 1 + (x.1 * 10007 + x.2) % n else 0
theorem lead_sum (a b n : Int) (hn : mayC n = true) (h : Gm.Ok (a, b)) : wrap64 (1 + Int.tmod (wrap64 (wrap64 (a * 10007) + b)) n) = 1 + (a * 10007 + b) % n := by
  have hm := mayC_of hn
  obtain ⟨h1, h2, h3, h4⟩ : 0 ≤ a ∧ a < 10007 ∧ 0 ≤ b ∧ b < 10007 := h
  have m1 := Int.emod_nonneg (a * 10007 + b) (show n ≠ 0 by omega)
  have m2 := Int.emod_lt_of_pos (a * 10007 + b) (show 0 < n by omega)
  rw [wrap64_in (a * 10007) (by omega), wrap64_in (a * 10007 + b) (by omega), Int.tmod_eq_emod_of_nonneg (by omega), wrap64_in _ (by omega)]
theorem c_lead (a b n : Int) : coin_Leader.f a b n = some (leadC (a, b) n) := by
  unfold coin_Leader.f leadC
  rw [c_may, Option.bind_some]
  by_cases hn : mayC n = true
  · have hm := mayC_of hn
    rw [if_pos hn, c_gm, Option.bind_some]
    by_cases h : Gm.Ok (a, b)
    · rw [if_pos (decide_eq_true h), if_neg (by omega), if_pos ⟨hn, h⟩, lead_sum a b n hn h]
    · rw [if_neg (by simpa using h), if_neg (fun x => h x.2)]
  · rw [if_neg hn, if_neg (fun x => hn x.1)]
def dealC (tape : ByteArray) (wave n : Int) : List Gm.E := if wave < 1 ∨ mayC n = false then [] else Sa.dealL tape wave.toNat (weakC n)
def toE (l : List Gm.E) : List S23 := l.map fun p => (⟨p.1, p.2⟩ : S23)
theorem c_deal (tape : ByteArray) (wave n : Int) (ht : tape.size ≤ 1048576) (hw : wave ≤ 9223372036854775807) : coin_Deal.f tape wave n = some (toE (dealC tape wave n)) := by
  unfold coin_Deal.f dealC
  by_cases h1 : wave < 1
  · rw [if_pos h1, if_pos (.inl h1)]
    rfl
  · rw [if_neg h1, c_may, Option.bind_some]
    cases hn : mayC n with
    | false =>
      rw [if_neg (by decide), if_pos (.inr rfl)]
      rfl
    | true =>
      have := weakC_le n
      rw [if_pos rfl, c_weak, Option.bind_some, if_pos ⟨by omega, by omega, by omega, hw⟩, if_neg (by simp; omega), Int.toNat_natCast]
      rfl
theorem dealC_length (tape : ByteArray) (wave n : Int) (h1 : ¬ wave < 1) (hn : mayC n = true) : (dealC tape wave n).length = weakC n := by
  unfold dealC
  rw [if_neg (by simp [hn]; omega), Sa.dealL_length]
theorem num4_ok (d : ByteArray) (i : Nat) : 0 ≤ Sa.num4 d i ∧ Sa.num4 d i < 10007 := by
  unfold Sa.num4
  omega
theorem dealC_ok (tape : ByteArray) (wave n : Int) : ∀ c ∈ dealC tape wave n, Gm.Ok c := by
  intro c hc
  unfold dealC at hc
  split at hc
  · cases hc
  · unfold Sa.dealL at hc
    obtain ⟨k, _, rfl⟩ := List.mem_map.1 hc
    exact ⟨(num4_ok _ _).1, (num4_ok _ _).2, (num4_ok _ _).1, (num4_ok _ _).2⟩
theorem wfI {n : Int} (h : (Lit.int .i64 n).wf = true) : -9223372036854775808 ≤ n ∧ n ≤ 9223372036854775807 := by
  simp [Lit.wf, IntKind.min, IntKind.max, IntKind.signed, IntKind.bits] at h
  omega
theorem shown : selvedgelaw12_shown.f = some true := by
  unfold selvedgelaw12_shown.f
  have e1 : mayC 4 = true := by decide
  have l1 : leadC (0, 0) 4 = 1 := by decide
  have l2 : leadC (5, 2) 4 = 2 := by decide
  rw [c_deal _ _ _ (by decide) (by decide), Option.bind_some, c_lead, Option.bind_some, l1, if_pos rfl, c_lead, Option.bind_some, l2, if_pos rfl]
  unfold toE
  rw [List.length_map, dealC_length _ _ _ (by decide) e1]
  rfl
theorem c_rmay (n : Int) : selvedgeref05_May.f n = some (mayC n) := by
  unfold selvedgeref05_May.f mayC
  by_cases h0 : n = 4
  · rw [if_pos h0, decide_eq_true (by omega)]
  · by_cases h1 : n > 4
    · by_cases h2 : n ≤ 64
      · rw [if_neg h0, if_pos h1, if_pos h2, wrap64_in _ (by omega), Int.tmod_eq_emod_of_nonneg (by omega)]
        congr 1
        rw [Bool.eq_iff_iff, beq_iff_eq, decide_eq_true_iff]
        omega
      · rw [if_neg h0, if_pos h1, if_neg h2, decide_eq_false (by omega)]
    · rw [if_neg h0, if_neg h1, decide_eq_false (by omega)]
theorem c_rweak (n : Int) : selvedgeref05_Weak.f n = some (weakC n : Int) := by
  unfold selvedgeref05_Weak.f weakC
  rw [c_rmay, Option.bind_some]
  by_cases h : mayC n = true
  · have := mayC_of h
    rw [if_pos h, if_pos h, wrap64_in (n - 1) (by omega), Int.tdiv_eq_ediv_of_nonneg (by omega), wrap64_in ((n - 1) / 3) (by omega), wrap64_in _ (by omega)]
    congr 1
    omega
  · rw [if_neg h, if_neg h]
    rfl
theorem c_rgm (a b : Int) : selvedgeref03_May.f a b = some (decide (Gm.Ok (a, b))) := by
  have e : Gm.Ok (a, b) ↔ 0 ≤ a ∧ a < 10007 ∧ 0 ≤ b ∧ b < 10007 := Iff.rfl
  unfold selvedgeref03_May.f
  by_cases h1 : a ≥ 0
  · by_cases h2 : a < 10007
    · by_cases h3 : b ≥ 0
      · rw [if_pos h1, if_pos h2, if_pos h3, Option.some.injEq, decide_eq_decide, e]
        omega
      · rw [if_pos h1, if_pos h2, if_neg h3, decide_eq_false (fun h => by rw [e] at h; omega)]
    · rw [if_pos h1, if_neg h2, decide_eq_false (fun h => by rw [e] at h; omega)]
  · rw [if_neg h1, decide_eq_false (fun h => by rw [e] at h; omega)]
theorem c_rlead (a b n : Int) : selvedgeref12_Leader.f a b n = some (leadC (a, b) n) := by
  unfold selvedgeref12_Leader.f leadC
  rw [c_rmay, Option.bind_some, c_rgm, Option.bind_some]
  by_cases hn : mayC n = true
  · have hm := mayC_of hn
    rw [if_pos hn]
    by_cases h : Gm.Ok (a, b)
    · rw [if_pos (decide_eq_true h), if_neg (by omega), if_pos ⟨hn, h⟩, lead_sum a b n hn h]
    · rw [if_neg (by simpa using h), if_neg (fun x => h x.2)]
  · rw [if_neg hn, if_neg (fun x => hn x.1)]
theorem bt_nb (d : ByteArray) (i : Nat) : bt d (i : Int) = (Sa.nb d i : Int) := by
  unfold bt Sa.nb
  rw [Int.toNat_natCast]
  by_cases h : i < d.size
  · rw [dif_pos h, List.getD_eq_getElem?_getD, List.getElem?_eq_getElem (by rw [Array.length_toList]; exact h)]
    rfl
  · rw [dif_neg h, List.getD_eq_getElem?_getD, List.getElem?_eq_none (by rw [Array.length_toList]; exact Nat.le_of_not_lt h)]
    rfl
theorem four_step (d : ByteArray) (p i v k : Nat) (hp : p ≤ 4) (h1 : i < p + 4) (hd : d.size = 32) (hv : v < 16777216) :
    selvedgeref12_four.l0 (k + 1) d (p : Int) (v : Int) (i : Int) = selvedgeref12_four.l0 k d (p : Int) ((v * 256 + Sa.nb d i : Nat) : Int) ((i + 1 : Nat) : Int) := by
  have hb := Sa.nb_lt d i
  rw [selvedgeref12_four.l0, wrap64_in ((p : Int) + 4) (by omega), if_pos (by omega), if_pos (by omega), if_pos (by omega), bt_nb, wrap64_in ((v : Int) * 256) (by omega), wrap64_in (Sa.nb d i : Int) (by omega), wrap64_in _ (by omega), wrap64_in _ (by omega)]
  rw [show (v : Int) * 256 + (Sa.nb d i : Int) = ((v * 256 + Sa.nb d i : Nat) : Int) by omega, show (i : Int) + 1 = ((i + 1 : Nat) : Int) by omega]
theorem c_four (d : ByteArray) (p k : Nat) (hp : p ≤ 4) (hd : d.size = 32) : selvedgeref12_four.f (k + 1 + 1 + 1 + 1 + 1) d (p : Int) = some (Sa.num4 d p) := by
  have h0 := Sa.nb_lt d p
  have h1 := Sa.nb_lt d (p + 1)
  have h2 := Sa.nb_lt d (p + 2)
  have h3 := Sa.nb_lt d (p + 3)
  unfold selvedgeref12_four.f
  have s0 : selvedgeref12_four.l0 (k + 1 + 1 + 1 + 1 + 1) d (p : Int) 0 (p : Int) = _ := four_step d p p 0 (k + 1 + 1 + 1 + 1) hp (by omega) hd (by omega)
  have s1 := four_step d p (p + 1) (0 * 256 + Sa.nb d p) (k + 1 + 1 + 1) hp (by omega) hd (by omega)
  have s2 := four_step d p (p + 2) ((0 * 256 + Sa.nb d p) * 256 + Sa.nb d (p + 1)) (k + 1 + 1) hp (by omega) hd (by omega)
  have s3 := four_step d p (p + 3) (((0 * 256 + Sa.nb d p) * 256 + Sa.nb d (p + 1)) * 256 + Sa.nb d (p + 2)) (k + 1) hp (by omega) hd (by omega)
  refine (s0.trans (s1.trans (s2.trans s3))).trans ?_
  rw [selvedgeref12_four.l0, wrap64_in ((p : Int) + 4) (by omega), if_neg (by omega), Int.tmod_eq_emod_of_nonneg (by omega)]
  unfold Sa.num4
  rw [Option.some.injEq]
  omega
theorem four_ev (d : ByteArray) (p : Nat) (hp : p ≤ 4) (hd : d.size = 32) : Fl.Ev (fun k => selvedgeref12_four.f k d (p : Int)) (Sa.num4 d p) :=
  ⟨5, fun k hk => by
    obtain ⟨j, rfl⟩ : ∃ j, k = j + 5 := ⟨k - 5, by omega⟩
    exact c_four d p j hp hd⟩
theorem toE_snoc (l : List Gm.E) (c : Gm.E) : toE (l ++ [c]) = toE l ++ [(⟨c.1, c.2⟩ : S23)] := by simp [toE]
theorem toE_length (l : List Gm.E) : (toE l).length = l.length := by simp [toE]
theorem rdeal_l (tape : ByteArray) (wave n : Int) (ht : tape.size ≤ 1048576) (h1 : ¬ wave < 1) (hw : wave ≤ 9223372036854775807) : ∀ (m i : Nat), i + m = weakC n →
    Fl.Ev (fun k => selvedgeref12_Deal.l0 k tape wave n (toE (Sa.dealL tape wave.toNat i)) (i : Int)) (toE (Sa.dealL tape wave.toNat (weakC n)))
  | 0, i, hi => by
    refine Fl.Ev.step (g := fun _ => some (toE (Sa.dealL tape wave.toNat (weakC n)))) (Fl.Ev.const fun _ => rfl) fun k => ?_
    rw [selvedgeref12_Deal.l0, c_rweak, Option.bind_some, if_neg (by omega), show i = weakC n by omega]
  | m + 1, i, hi => by
    have hwk := weakC_le n
    have ih := rdeal_l tape wave n ht h1 hw m (i + 1) (by omega)
    have hlt : (i : Int) < (weakC n : Int) := by omega
    have w1 : wrap64 ((i : Int) + 1) = ((i + 1 : Nat) : Int) := by rw [wrap64_in _ (by omega)]; omega
    have b1 : 0 ≤ wave ∧ wave < 18446744073709551616 := ⟨by omega, by omega⟩
    have b2 : 0 ≤ (i : Int) ∧ (i : Int) < 18446744073709551616 := ⟨by omega, by omega⟩
    have hlen : (toE (Sa.dealL tape wave.toNat i)).length < 8796093022208 := by rw [toE_length, Sa.dealL_length]; omega
    have s1 := Sa.textB_le tape
    have s2 := Sa.numB_le wave.toNat
    have s3 := Sa.numB_le i
    have hsz := Sa.dealS_size tape wave.toNat i
    have hd := Sa.dealD_size tape wave.toNat i
    have r1 : selvedgeref01_Text.f tape = some (Sa.textB tape) := if_pos (by omega)
    have r2 : selvedgeref01_Num.f wave = some (Sa.numB wave.toNat) := if_pos ⟨by omega, by omega⟩
    have r3 : selvedgeref01_Num.f (i : Int) = some (Sa.numB (i : Int).toNat) := if_pos ⟨by omega, by omega⟩
    rw [Int.toNat_natCast] at r3
    have r4 : selvedgeref02_Sum.f ((((⟨#[99]⟩ : ByteArray) ++ Sa.textB tape) ++ Sa.numB wave.toNat) ++ Sa.numB i) = some (Sa.dealD tape wave.toNat i) := if_pos (Nat.le_trans hsz (by omega))
    have hE : Sa.dealE tape wave.toNat i = (Sa.num4 (Sa.dealD tape wave.toNat i) 0, Sa.num4 (Sa.dealD tape wave.toNat i) 4) := rfl
    rw [Sa.dealL_succ, toE_snoc, hE] at ih
    generalize Sa.dealD tape wave.toNat i = D at hd ih r4
    generalize Sa.textB tape = TX at s1 r1 r4
    generalize Sa.numB wave.toNat = WX at s2 r2 r4
    generalize Sa.numB i = IX at s3 r3 r4
    clear hsz
    have q1 : 1 + TX.size ≤ 9223372036854775807 := by omega
    have q2 : ((⟨#[99]⟩ : ByteArray) ++ TX).size + WX.size ≤ 9223372036854775807 := by rw [ByteArray.size_append, show (⟨#[99]⟩ : ByteArray).size = 1 from rfl]; omega
    have q3 : (((⟨#[99]⟩ : ByteArray) ++ TX) ++ WX).size + IX.size ≤ 9223372036854775807 := by rw [ByteArray.size_append, ByteArray.size_append, show (⟨#[99]⟩ : ByteArray).size = 1 from rfl]; omega
    have e0 : Fl.Ev (fun k => selvedgeref12_four.f k D 0) (Sa.num4 D 0) := four_ev D 0 (by omega) hd
    have e4 : Fl.Ev (fun k => selvedgeref12_four.f k D 4) (Sa.num4 D 4) := four_ev D 4 (by omega) hd
    refine Fl.Ev.step (g := fun k => (selvedgeref12_four.f k D 0).bind fun t122 => ((selvedgeref12_four.f k D 4).bind fun t123 => selvedgeref12_Deal.l0 k tape wave n (toE (Sa.dealL tape wave.toNat i) ++ [(⟨t122, t123⟩ : S23)]) ((i + 1 : Nat) : Int))) (e0.bind (g := fun k t122 => ((selvedgeref12_four.f k D 4).bind fun t123 => selvedgeref12_Deal.l0 k tape wave n (toE (Sa.dealL tape wave.toNat i) ++ [(⟨t122, t123⟩ : S23)]) ((i + 1 : Nat) : Int))) (e4.bind (g := fun k t123 => selvedgeref12_Deal.l0 k tape wave n (toE (Sa.dealL tape wave.toNat i) ++ [(⟨Sa.num4 D 0, t123⟩ : S23)]) ((i + 1 : Nat) : Int)) ih)) fun k => ?_
    have u1 : IntKind.u64.wrap wave = wave := u64_wrap_id _ b1.1 b1.2
    have u2 : IntKind.u64.wrap (i : Int) = (i : Int) := u64_wrap_id _ b2.1 b2.2
    rw [selvedgeref12_Deal.l0, c_rweak, Option.bind_some, if_pos hlt, u1, u2, w1]
    rw [r1, Option.bind_some, if_pos q1, r2, Option.bind_some, if_pos q2, r3, Option.bind_some, if_pos q3, r4, Option.bind_some]
    simp only [if_pos hlen]
theorem rdeal_ev (tape : ByteArray) (wave n : Int) (ht : tape.size ≤ 1048576) (hw : wave ≤ 9223372036854775807) : Fl.Ev (fun k => selvedgeref12_Deal.f k tape wave n) (toE (dealC tape wave n)) := by
  have hno : Fl.Ev (fun k => selvedgeref12_Deal.j0 k tape wave n true) ([] : List S23) := Fl.Ev.step (g := fun _ => some ([] : List S23)) (Fl.Ev.const fun _ => rfl) fun k => by rw [selvedgeref12_Deal.j0, if_pos rfl]
  unfold dealC
  by_cases h1 : wave < 1
  · rw [if_pos (.inl h1)]
    refine hno.of_eq fun k => ?_
    unfold selvedgeref12_Deal.f
    rw [c_rmay, Option.bind_some, if_pos h1]
  · cases hn : mayC n with
    | false =>
      rw [if_pos (.inr rfl)]
      refine hno.of_eq fun k => ?_
      unfold selvedgeref12_Deal.f
      rw [c_rmay, Option.bind_some, if_neg h1, hn]
      rfl
    | true =>
      rw [if_neg (by simp; omega)]
      refine (Fl.Ev.step (f := fun k => selvedgeref12_Deal.j0 k tape wave n false) (rdeal_l tape wave n ht h1 hw (weakC n) 0 (by omega)) fun k => ?_).of_eq fun k => ?_
      · rw [selvedgeref12_Deal.j0, if_neg (by decide)]
        rfl
      · unfold selvedgeref12_Deal.f
        rw [c_rmay, Option.bind_some, if_neg h1, hn]
        rfl
theorem eE_toE (l : List Gm.E) : eE (toE l) = l := by
  unfold eE toE
  rw [List.map_map]
  exact List.map_id' _
def ownC (tape : ByteArray) (wave n id : Int) : Gm.E := (Fl.ofE (dealC tape wave n) id).1.2
theorem ofE_zero (l : List Gm.E) (id : Int) (h : (Fl.ofE l id).2 ≠ 0) : (Fl.ofE l id).1.2 = (0, 0) := by
  unfold Fl.ofE at h ⊢
  split
  · rfl
  · split
    · rfl
    · split
      · rfl
      · rename_i h1 h2 h3
        rw [if_neg h1, if_neg h2, if_neg h3] at h
        exact absurd rfl h
theorem c_own (tape : ByteArray) (wave n id : Int) (ht : tape.size ≤ 1048576) (hw : wave ≤ 9223372036854775807) : coin_Own.f tape wave n id = some ((ownC tape wave n id).1, (ownC tape wave n id).2) := by
  unfold coin_Own.f share_Of.f ownC
  rw [c_deal tape wave n ht hw, Option.bind_some, Option.bind_some, eE_toE]
  by_cases h : (Fl.ofE (dealC tape wave n) id).2 = 0
  · rw [if_pos h]
  · rw [if_neg h, ofE_zero _ _ h]
theorem c_third (r : Int) : vertex_Third.f r = some (decide (3 ≤ r ∧ r % 3 = 0)) := by
  unfold vertex_Third.f
  by_cases h : r ≥ 3
  · rw [if_pos h, Int.tmod_eq_emod_of_nonneg (by omega)]
    congr 1
    rw [Bool.eq_iff_iff, beq_iff_eq, decide_eq_true_iff]
    omega
  · rw [if_neg h, decide_eq_false (by omega)]
theorem c_wave (r : Int) (h3 : 3 ≤ r ∧ r % 3 = 0) (hr : r ≤ 9223372036854775807) : vertex_Wave.f r = some (r / 3) := by
  unfold vertex_Wave.f
  rw [if_neg (by omega), wrap64_in (r - 1) (by omega), Int.tdiv_eq_ediv_of_nonneg (by omega), wrap64_in ((r - 1) / 3) (by omega), wrap64_in _ (by omega)]
  congr 1
  omega
def fitsC (tape : ByteArray) (n id r : Int) (x : Gm.E) : Bool := if 3 ≤ r ∧ r % 3 = 0 then decide (x = ownC tape (r / 3) n id) else decide (x = (0, 0))
theorem eqC (a b : Int) (y : Gm.E) : (a == y.1 && (b == y.2)) = decide (((a, b) : Gm.E) = y) := by
  obtain ⟨u, v⟩ := y
  rw [Bool.eq_iff_iff]; simp
theorem c_fits (tape : ByteArray) (n id r : Int) (l2 : List S193) (l3 : List ByteArray) (a b : Int) (ht : tape.size ≤ 1048576) (hr : r ≤ 9223372036854775807) : coin_Fits.f tape n id r l2 l3 a b = some (fitsC tape n id r (a, b)) := by
  unfold coin_Fits.f fitsC
  rw [c_third, Option.bind_some]
  by_cases h : 3 ≤ r ∧ r % 3 = 0
  · rw [if_pos (decide_eq_true h), if_pos h, c_wave r h hr, Option.bind_some, c_own _ _ _ _ ht (by omega), Option.bind_some, eqC]
  · rw [if_neg (by simpa using h), if_neg h]
    congr 1
    exact eqC a b (0, 0)
def shC (x : S59) : S104 := ⟨x.f1.f0, ⟨x.f1.f4.f0, x.f1.f4.f1⟩⟩
def roundC (L : List S59) (r : Int) : List S59 := L.filter fun x => decide (x.f1.f1 = r)
theorem roundC_len (L : List S59) (r : Int) : (roundC L r).length ≤ L.length := List.length_filter_le _ _
theorem roundC_snoc (L : List S59) (r : Int) (x : S59) : roundC (L ++ [x]) r = if x.f1.f1 = r then roundC L r ++ [x] else roundC L r := by
  unfold roundC
  by_cases h : x.f1.f1 = r <;> simp [List.filter_append, h]
theorem rd59 (L : List S59) {i : Nat} (h : i < L.length) : rd_T59 L (i : Int) = L[i] := by
  unfold rd_T59
  rw [Int.toNat_natCast, List.getD_eq_getElem?_getD, List.getElem?_eq_getElem h]
  rfl
theorem c_round_l (L : List S59) (r : Int) (hl : L.length ≤ 1000000) : ∀ (m i : Nat), i + m = L.length → Fl.Ev (fun k => dag_Round.l0 k r (roundC (L.take i) r) L (L.length : Int) (i : Int)) (roundC L r)
  | 0, i, hi => by
    refine Fl.Ev.step (g := fun _ => some (roundC L r)) (Fl.Ev.const fun _ => rfl) fun k => ?_
    rw [dag_Round.l0, if_neg (by omega), List.take_of_length_le (by omega)]
  | m + 1, i, hi => by
    have hlt : i < L.length := by omega
    have ih := c_round_l L r hl m (i + 1) (by omega)
    have w1 : wrap64 ((i : Int) + 1) = ((i + 1 : Nat) : Int) := by rw [wrap64_in _ (by omega)]; omega
    rw [List.take_succ_eq_append_getElem hlt, roundC_snoc] at ih
    refine ih.step fun k => ?_
    rw [dag_Round.l0, if_pos (by omega), if_pos (by omega), if_pos (by omega), rd59 L hlt, w1]
    by_cases h : L[i].f1.f1 = r
    · rw [if_pos h, if_pos h, if_pos (by have := roundC_len (L.take i) r; rw [List.length_take] at this; omega)]
    · rw [if_neg h, if_neg h]
theorem c_round (L : List S59) (n low r : Int) (hl : L.length ≤ 1000000) : Fl.Ev (fun k => dag_Round.f k n low L r) (roundC L r) :=
  (c_round_l L r hl L.length 0 (by omega)).of_eq fun k => by unfold dag_Round.f; rfl
def openC (s : List S104) (n : Int) : Int × Int := if (Fl.openE (eS s) (Fl.wtE (eS s))).2 = 0 then (leadC (Fl.openE (eS s) (Fl.wtE (eS s))).1 n, 0) else (0, (Fl.openE (eS s) (Fl.wtE (eS s))).2)
def revC (n : Int) (L : List S59) (wave : Int) : Int × Int :=
  if wave < 1 ∨ 1048576 < wave ∨ mayC n = false then (0, 1)
  else if (roundC L (3 * wave)).length < weakC n then (0, 12)
  else openC (((roundC L (3 * wave)).take (weakC n)).map shC) n
theorem c_rev_l (Y L : List S59) (n low : Int) (hl : Y.length ≤ 1000000) : ∀ (m i : Nat), i + m = Y.length → Fl.Ev (fun k => coin_Reveal.l0 k ((Y.take i).map shC) Y (Y.length : Int) (i : Int) n low L) (openC (Y.map shC) n)
  | 0, i, hi => by
    refine Fl.Ev.step (g := fun _ => some (openC (Y.map shC) n)) (Fl.Ev.const fun _ => rfl) fun k => ?_
    rw [coin_Reveal.l0, if_neg (by omega), List.take_of_length_le (by omega)]
    unfold share_Open.f openC
    rw [Option.bind_some]
    simp only
    by_cases h : (Fl.openE (eS (Y.map shC)) (Fl.wtE (eS (Y.map shC)))).2 = 0
    · rw [if_pos h, if_pos h, c_lead]
      rfl
    · rw [if_neg h, if_neg h]
  | m + 1, i, hi => by
    have hlt : i < Y.length := by omega
    have ih := c_rev_l Y L n low hl m (i + 1) (by omega)
    have w1 : wrap64 ((i : Int) + 1) = ((i + 1 : Nat) : Int) := by rw [wrap64_in _ (by omega)]; omega
    rw [List.take_succ_eq_append_getElem hlt, List.map_append] at ih
    refine ih.step fun k => ?_
    rw [coin_Reveal.l0, if_pos (by omega), if_pos (by omega), if_pos (by omega), if_pos (by rw [List.length_map, List.length_take]; omega), rd59 Y hlt, w1]
    rfl
theorem c_rev (L : List S59) (n low wave : Int) (hl : L.length ≤ 1000000) : Fl.Ev (fun k => coin_Reveal.f k n low L wave) (revC n L wave) := by
  have hno : Fl.Ev (fun k => coin_Reveal.j0 k wave true n low L) (0, 1) := Fl.Ev.step (g := fun _ => some (0, 1)) (Fl.Ev.const fun _ => rfl) fun k => by rw [coin_Reveal.j0, if_pos rfl]
  unfold revC
  by_cases h1 : wave < 1
  · rw [if_pos (.inl h1)]
    exact hno.of_eq fun k => by unfold coin_Reveal.f; rw [if_pos h1]
  · by_cases h2 : 1048576 < wave
    · rw [if_pos (.inr (.inl h2))]
      exact hno.of_eq fun k => by unfold coin_Reveal.f; rw [if_neg h1, if_pos h2]
    · cases hn : mayC n with
      | false =>
        rw [if_pos (.inr (.inr rfl))]
        exact hno.of_eq fun k => by unfold coin_Reveal.f; rw [if_neg h1, if_neg h2, c_may, Option.bind_some, hn]; rfl
      | true =>
        rw [if_neg (by rintro (h | h | h) <;> first | omega | cases h)]
        have hr := c_round L n low (3 * wave) hl
        have hj : Fl.Ev (fun k => coin_Reveal.j0 k wave false n low L) (if (roundC L (3 * wave)).length < weakC n then (0, 12) else openC (((roundC L (3 * wave)).take (weakC n)).map shC) n) := by
          refine Fl.Ev.step (hr.bind (g := fun k t142 => ((seats_Weak.f n).bind fun t145 => (if (t142.length : Int) < t145 then (some (0, 12)) else ((seats_Weak.f n).bind fun t146 => (if 0 ≤ t146 then (if t146 ≤ (t142.length : Int) then ((some (t142.take (t146 : Int).toNat : List (S59))).bind fun y147 => (coin_Reveal.l0 k ([] : List (S104)) y147 (y147.length : Int) 0 n low L)) else (none)) else (none)))))) ?_) fun k => ?_
          · by_cases h3 : (roundC L (3 * wave)).length < weakC n
            · rw [if_pos h3]
              exact Fl.Ev.const fun k => by rw [c_weak, Option.bind_some, if_pos (by omega)]
            · rw [if_neg h3]
              have hR := roundC_len L (3 * wave)
              refine (c_rev_l ((roundC L (3 * wave)).take (weakC n)) L n low (by rw [List.length_take]; omega) _ 0 (Nat.zero_add _)).of_eq fun k => ?_
              rw [c_weak, Option.bind_some, if_neg (by omega), Option.bind_some, if_pos (by omega), if_pos (by omega), Option.bind_some, Int.toNat_natCast]
              rfl
          · rw [coin_Reveal.j0, if_neg (by decide), wrap64_in _ (by omega)]
        exact hj.of_eq fun k => by unfold coin_Reveal.f; rw [if_neg h1, if_neg h2, c_may, Option.bind_some, hn]; rfl
theorem openC_deal (tape : ByteArray) (wave n : Int) (h1 : ¬ wave < 1) (hn : mayC n = true) (ids : List Int) (hg : Fl.Good ids) (hl : ids.length = weakC n) (s : List S104) (hs : eS s = ids.map fun id => (id, ownC tape wave n id)) :
    openC s n = (leadC ((dealC tape wave n).getD 0 (0, 0)) n, 0) := by
  have hok := dealC_ok tape wave n
  have hdl := dealC_length tape wave n h1 hn
  have hp := weakC_pos hn
  have hap : Fl.Apart (eS s) := Fl.apart_of hg (by rw [hs, List.map_map]; exact List.map_id' _)
  have hlen : (eS s).length = weakC n := by rw [hs, List.length_map, hl]
  have hv : ∀ j, j < (eS s).length → Fl.vAt (eS s) j = Gm.ev (dealC tape wave n) (Fl.xAt (eS s) j) := fun j hj => by
    unfold Fl.vAt Fl.xAt Fl.idAt
    rw [hs]
    rw [hs, List.length_map] at hj
    rw [List.getD_eq_getElem?_getD, List.getElem?_eq_getElem (by rw [List.length_map]; exact hj), Option.getD_some, List.getElem_map]
    obtain ⟨g1, g2⟩ := hg.2 _ (List.getElem_mem hj)
    show ownC tape wave n ids[j] = _
    unfold ownC
    rw [Fl.ofE_ok g1 g2 hok]
  have ho : Fl.openE (eS s) (Fl.wtE (eS s)) = ((dealC tape wave n).getD 0 (0, 0), 0) := by
    rw [Fl.openE_yes (by omega) hap (fun j hj => by rw [hv j hj]; exact Gm.ev_ok _ _), Fl.secret_of hap (f := Gm.ev (dealC tape wave n)) (fun x _ => Gm.ev_ok _ _) (n := (dealC tape wave n).length) (by omega) (Gm.pl_ev _ hok) hv]
    cases he : dealC tape wave n with
    | nil => rw [he] at hdl; simp at hdl; omega
    | cons c q => rw [Gm.ev_zero c q (hok c (by rw [he]; simp))]; rfl
  unfold openC
  rw [ho, if_pos rfl]
def lsC : Nat → Nat → Nat → List Int
  | 0, _, _ => []
  | m + 1, v, i => if v % 2 = 1 then (i : Int) :: lsC m (v / 2) (i + 1) else lsC m (v / 2) (i + 1)
theorem lsC_mem : ∀ (m v i : Nat) (x : Int), x ∈ lsC m v i → (i : Int) ≤ x ∧ x < (i + m : Nat)
  | 0, _, _, x, h => by cases h
  | m + 1, v, i, x, h => by
    unfold lsC at h
    split at h
    · rcases List.mem_cons.1 h with rfl | h
      · omega
      · have := lsC_mem m _ _ x h; omega
    · have := lsC_mem m _ _ x h; omega
theorem lsC_nodup : ∀ (m v i : Nat), (lsC m v i).Nodup
  | 0, _, _ => List.nodup_nil
  | m + 1, v, i => by
    unfold lsC
    split
    · rw [List.nodup_cons]
      exact ⟨fun h => by have := lsC_mem m _ _ _ h; omega, lsC_nodup m _ _⟩
    · exact lsC_nodup m _ _
theorem lsC_good (v : Nat) : Fl.Good (lsC 64 v 1) := ⟨lsC_nodup _ _ _, fun x hx => by have := lsC_mem _ _ _ x hx; omega⟩
theorem lsC_len (m v i : Nat) : (lsC m v i).length ≤ m := by
  induction m generalizing v i with
  | zero => exact Nat.le_refl _
  | succ m ih =>
    unfold lsC
    split
    · have := ih (v / 2) (i + 1); rw [List.length_cons]; omega
    · have := ih (v / 2) (i + 1); omega
theorem list_l : ∀ (m i v : Nat) (acc : List Int), i + m = 65 → v < 18446744073709551616 → acc.length ≤ i → Fl.Ev (fun k => selvedgeref05_List.l0 k (v : Int) acc (i : Int)) (acc ++ lsC m v i)
  | 0, i, v, acc, hi, hv, ha => by
    refine Fl.Ev.step (g := fun _ => some (acc ++ lsC 0 v i)) (Fl.Ev.const fun _ => rfl) fun k => ?_
    rw [selvedgeref05_List.l0, if_neg (by omega), lsC, List.append_nil]
  | m + 1, i, v, acc, hi, hv, ha => by
    have hu : IntKind.u64.wrap (Int.tdiv (v : Int) 2) = ((v / 2 : Nat) : Int) := by
      rw [Int.tdiv_eq_ediv_of_nonneg (by omega), u64_wrap_id _ (by omega) (by omega)]
      omega
    have w1 : wrap64 ((i : Int) + 1) = ((i + 1 : Nat) : Int) := by rw [wrap64_in _ (by omega)]; omega
    have hm : Int.tmod (v : Int) 2 = ((v % 2 : Nat) : Int) := by rw [Int.tmod_eq_emod_of_nonneg (by omega)]; omega
    rw [lsC]
    by_cases h : v % 2 = 1
    · have ih := list_l m (i + 1) (v / 2) (acc ++ [(i : Int)]) (by omega) (by omega) (by rw [List.length_append]; simp; omega)
      rw [List.append_assoc] at ih
      rw [if_pos h]
      refine ih.step fun k => ?_
      rw [selvedgeref05_List.l0, if_pos (by omega), hm, if_pos (by omega), if_pos (by omega), hu, w1]
    · have ih := list_l m (i + 1) (v / 2) acc (by omega) (by omega) (by omega)
      rw [if_neg h]
      refine ih.step fun k => ?_
      rw [selvedgeref05_List.l0, if_pos (by omega), hm, if_neg (by omega), hu, w1]
theorem list_ev (v : Nat) (hv : v < 18446744073709551616) : Fl.Ev (fun k => selvedgeref05_List.f k (v : Int)) (lsC 64 v 1) :=
  (list_l 64 1 v [] (by omega) hv (by simp)).of_eq fun k => by unfold selvedgeref05_List.f; rfl
theorem wfU {n : Int} (h : (Lit.int .u64 n).wf = true) : 0 ≤ n ∧ n < 18446744073709551616 := by
  simp [Lit.wf, IntKind.min, IntKind.max, IntKind.signed, IntKind.bits] at h
  omega
def enC (tape : ByteArray) (wave n id : Int) : S59 := ⟨(⟨#[]⟩ : ByteArray), ⟨id, 3 * wave, [], [], ⟨(ownC tape wave n id).1, (ownC tape wave n id).2⟩⟩⟩
theorem eS_en (tape : ByteArray) (wave n : Int) (ids : List Int) : eS ((ids.map (enC tape wave n)).map shC) = ids.map fun id => (id, ownC tape wave n id) := by
  unfold eS
  rw [List.map_map, List.map_map]
  rfl
theorem round_en (tape : ByteArray) (wave n : Int) (ids : List Int) : roundC (ids.map (enC tape wave n)) (3 * wave) = ids.map (enC tape wave n) := by
  unfold roundC
  rw [List.filter_eq_self]
  intro x hx
  obtain ⟨id, _, rfl⟩ := List.mem_map.1 hx
  exact decide_eq_true rfl
theorem good_tk {l : List Int} (h : Fl.Good l) (n : Nat) : Fl.Good (l.take n) := ⟨h.1.sublist (List.take_sublist _ _), fun x hx => h.2 x (List.mem_of_mem_take hx)⟩
/-- What is revealed where a round's shares are those dealt. -/
theorem revC_en (tape : ByteArray) (wave n : Int) (L : List S59) (ids : List Int) (h1 : ¬ wave < 1) (h2 : ¬ 1048576 < wave) (hn : mayC n = true) (hg : Fl.Good ids) (hR : roundC L (3 * wave) = ids.map (enC tape wave n)) :
    revC n L wave = if ids.length < weakC n then (0, 12) else (leadC ((dealC tape wave n).getD 0 (0, 0)) n, 0) := by
  unfold revC
  rw [if_neg (by rintro (h | h | h) <;> first | omega | (rw [hn] at h; cases h)), hR, List.length_map]
  by_cases h3 : ids.length < weakC n
  · rw [if_pos h3, if_pos h3]
  · rw [if_neg h3, if_neg h3, ← List.map_take]
    exact openC_deal tape wave n h1 hn (ids.take (weakC n)) (good_tk hg _) (by rw [List.length_take]; omega) _ (eS_en _ _ _ _)
theorem lead_in {x : Gm.E} {n : Int} (hn : mayC n = true) (h : Gm.Ok x) : 1 ≤ leadC x n ∧ leadC x n ≤ n := by
  have hm := mayC_of hn
  have e : leadC x n = 1 + (x.1 * 10007 + x.2) % n := if_pos ⟨hn, h⟩
  have m1 := Int.emod_nonneg (x.1 * 10007 + x.2) (show n ≠ 0 by omega)
  have m2 := Int.emod_lt_of_pos (x.1 * 10007 + x.2) (show 0 < n by omega)
  omega
theorem one_end (tape : ByteArray) (n wave : Int) (ids : List Int) (ht : tape.size ≤ 1048576) (h1 : ¬ wave < 1) (h2 : ¬ wave > 1000) (hg : Fl.Good ids) (hl : ids.length ≤ 64) (bt : Int × Int) (hbt : bt = revC n (ids.map (enC tape wave n)) wave) :
    Fl.Ev (fun k => ((selvedgeref05_May.f n).bind fun t212 => (if t212 = true then ((selvedgeref05_Weak.f n).bind fun t213 => (if (ids.length : Int) < t213 then (some (bt.2 == 12)) else ((selvedgeref12_Deal.f k tape wave n).bind fun t214 => (if bt.2 = 0 then (if 0 < (t214.length : Int) then ((selvedgeref12_Leader.f ((rd_T23 t214 0).f0) ((rd_T23 t214 0).f1) n).bind fun t218 => (if bt.1 = t218 then (if bt.1 ≥ 1 then (some (decide (bt.1 ≤ n))) else (some false)) else (some false))) else (none)) else (some false))))) else (some (bt.2 == 1))))) true := by
  cases hn : mayC n with
  | false =>
    have e : bt = (0, 1) := hbt.trans (if_pos (.inr (.inr hn)))
    exact Fl.Ev.const fun k => by rw [c_rmay, Option.bind_some, hn, if_neg (by decide), e]; rfl
  | true =>
    rw [revC_en tape wave n _ ids h1 (by omega) hn hg (round_en _ _ _ _)] at hbt
    have hd := rdeal_ev tape wave n ht (by omega)
    have hdl := dealC_length tape wave n h1 hn
    have hp := weakC_pos hn
    by_cases h3 : ids.length < weakC n
    · rw [if_pos h3] at hbt
      exact Fl.Ev.const fun k => by rw [c_rmay, Option.bind_some, hn, if_pos rfl, c_rweak, Option.bind_some, if_pos (by omega), hbt]; rfl
    · rw [if_neg h3] at hbt
      refine (hd.bind (g := fun k t214 => (if bt.2 = 0 then (if 0 < (t214.length : Int) then ((selvedgeref12_Leader.f ((rd_T23 t214 0).f0) ((rd_T23 t214 0).f1) n).bind fun t218 => (if bt.1 = t218 then (if bt.1 ≥ 1 then (some (decide (bt.1 ≤ n))) else (some false)) else (some false))) else (none)) else (some false))) ?_).of_eq fun k => by rw [c_rmay, Option.bind_some, hn, if_pos rfl, c_rweak, Option.bind_some, if_neg (by omega)]
      have e0 : ((rd_T23 (toE (dealC tape wave n)) 0).f0, (rd_T23 (toE (dealC tape wave n)) 0).f1) = (dealC tape wave n).getD 0 (0, 0) := by
        cases he : dealC tape wave n with
        | nil => rw [he] at hdl; simp at hdl; omega
        | cons c q => rfl
      have ok0 : Gm.Ok ((dealC tape wave n).getD 0 (0, 0)) := Fl.getD_ok (dealC_ok tape wave n) 0
      have hli := lead_in hn ok0
      refine Fl.Ev.const fun k => ?_
      rw [hbt]
      dsimp only
      rw [if_pos rfl, if_pos (by rw [toE_length]; omega), c_rlead, Option.bind_some, e0, if_pos rfl, if_pos (by omega), decide_eq_true hli.2]
theorem one_l (tape : ByteArray) (n wave : Int) (ids : List Int) (ht : tape.size ≤ 1048576) (h1 : ¬ wave < 1) (h2 : ¬ wave > 1000) (hg : Fl.Good ids) (hl : ids.length ≤ 64) : ∀ (m i : Nat), i + m = ids.length →
    Fl.Ev (fun k => selvedgelaw12_CoinOne.l0 k tape n wave ids (i : Int) n 0 ((ids.take i).map (enC tape wave n))) true
  | 0, i, hi => by
    rw [List.take_of_length_le (by omega)]
    have hr := c_rev (ids.map (enC tape wave n)) n 0 wave (by rw [List.length_map]; omega)
    refine Fl.Ev.step (hr.bind (g := fun k bt210 => ((selvedgeref05_May.f n).bind fun t212 => (if t212 = true then ((selvedgeref05_Weak.f n).bind fun t213 => (if (ids.length : Int) < t213 then (some (bt210.2 == 12)) else ((selvedgeref12_Deal.f k tape wave n).bind fun t214 => (if bt210.2 = 0 then (if 0 < (t214.length : Int) then ((selvedgeref12_Leader.f ((rd_T23 t214 0).f0) ((rd_T23 t214 0).f1) n).bind fun t218 => (if bt210.1 = t218 then (if bt210.1 ≥ 1 then (some (decide (bt210.1 ≤ n))) else (some false)) else (some false))) else (none)) else (some false))))) else (some (bt210.2 == 1))))) (one_end tape n wave ids ht h1 h2 hg hl _ rfl)) fun k => ?_
    rw [selvedgelaw12_CoinOne.l0, if_neg (by omega)]
  | m + 1, i, hi => by
    have hlt : i < ids.length := by omega
    have ih := one_l tape n wave ids ht h1 h2 hg hl m (i + 1) (by omega)
    have w1 : wrap64 ((i : Int) + 1) = ((i + 1 : Nat) : Int) := by rw [wrap64_in _ (by omega)]; omega
    have w3 : wrap64 (3 * wave) = 3 * wave := wrap64_in _ (by omega)
    have er : rd ids (i : Int) = ids[i] := by
      unfold rd
      rw [Int.toNat_natCast, List.getD_eq_getElem?_getD, List.getElem?_eq_getElem hlt]
      rfl
    have hf : fitsC tape n ids[i] (3 * wave) ((ownC tape wave n ids[i]).1, (ownC tape wave n ids[i]).2) = true := by
      unfold fitsC
      rw [if_pos ⟨by omega, by omega⟩, show 3 * wave / 3 = wave by omega]
      exact decide_eq_true rfl
    rw [List.take_succ_eq_append_getElem hlt, List.map_append] at ih
    refine ih.step fun k => ?_
    rw [selvedgelaw12_CoinOne.l0, if_pos (by omega), if_pos (by omega), er, c_own _ _ _ _ ht (by omega), Option.bind_some, w3, c_fits _ _ _ _ _ _ _ _ ht (by omega), Option.bind_some, hf, if_pos rfl, if_pos (by rw [List.length_map, List.length_take]; omega), w1]
    rfl
theorem CoinOne : selvedgelaw12_CoinOne.Pure := by
  intro x hx hb
  have ht : x.f0.size ≤ 1048576 := by unfold B63 at hb; simp only at hb; omega
  have hu := wfU hx.2.2.2
  obtain ⟨v, hv⟩ := Int.eq_ofNat_of_zero_le hu.1
  have hls := list_ev v (by omega)
  have hj : ∀ z : Bool, (z = false → ¬ x.f2 < 1 ∧ ¬ x.f2 > 1000) → Fl.Ev (fun k => selvedgelaw12_CoinOne.j0 k x.f0 x.f1 x.f2 x.f3 true z) true := by
    intro z hz
    cases z with
    | true =>
      refine Fl.Ev.step (g := fun _ => some true) (Fl.Ev.const fun _ => rfl) fun k => ?_
      rw [selvedgelaw12_CoinOne.j0, if_pos rfl]
    | false =>
      obtain ⟨h1, h2⟩ := hz rfl
      refine Fl.Ev.step (hls.bind (g := fun k t198 => selvedgelaw12_CoinOne.l0 k x.f0 x.f1 x.f2 t198 0 x.f1 0 ([] : List (S59))) (one_l x.f0 x.f1 x.f2 (lsC 64 v 1) ht h1 h2 (lsC_good v) (lsC_len _ _ _) (lsC 64 v 1).length 0 (by omega))) fun k => ?_
      rw [selvedgelaw12_CoinOne.j0, if_neg (by decide), hv]
  refine Fl.Ev.get (f := fun k => selvedgelaw12_CoinOne.f k x.f0 x.f1 x.f2 x.f3) ?_
  by_cases h1 : x.f2 < 1
  · exact (hj true (by simp)).of_eq fun k => by unfold selvedgelaw12_CoinOne.f; rw [shown, Option.bind_some, if_pos rfl, if_pos h1]
  · exact (hj (decide (x.f2 > 1000)) (fun hz => ⟨h1, of_decide_eq_false hz⟩)).of_eq fun k => by unfold selvedgelaw12_CoinOne.f; rw [shown, Option.bind_some, if_pos rfl, if_neg h1]

end Go.Proofs.Ytdppmkcahfjceaa.Pure
