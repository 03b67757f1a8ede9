/- Proved: the pure half of the law ShareHides of chapter 4 (what the walked program computes is 'true'). Conditions: those of its row, no other. -/
import Derived.Test.YtokkkeepifpbpaaArgShareHides
import Derived.Test.YtokkkeepifpbpaaSp
import Derived.IntWalk
namespace Go.Proofs.Ytokkkeepifpbpaa.Pure
open Go.IntWalk Go.RowKit Go.Proofs.Ytokkkeepifpbpaa.PShareHides Go.Proofs.YtokkkeepifpbpaaW.PrintWords Go.Proofs.YtokkkeepifpbpaaW.PrintLast
set_option linter.unusedSimpArgs false
set_option linter.unusedVariables false

theorem shown : selvedgelaw04_shown.f = some true := by
  have e1 : eE [(⟨5, 0⟩ : S23), ⟨3, 0⟩] = [(5, 0), (3, 0)] := rfl
  have e2 : eS [(⟨1, ⟨8, 0⟩⟩ : S43), ⟨2, ⟨11, 0⟩⟩] = Fl.shownL := rfl
  unfold selvedgelaw04_shown.f share_Of.f share_Open.f
  simp only [Option.bind_some, e1, Fl.shown_of1, Fl.shown_of2, e2, Fl.shown_open]
  rfl
theorem rmay (a b : Int) : selvedgeref03_May.f a b = some (decide (Gm.Ok (a, b))) := by
  have e : Gm.Ok (a, b) ↔ 0 ≤ a ∧ a < 10007 ∧ 0 ≤ b ∧ b < 10007 := Iff.rfl
  unfold selvedgeref03_May.f
  by_cases h1 : a ≥ 0
  · by_cases h2 : a < 10007
    · by_cases h3 : b ≥ 0
      · rw [if_pos h1, if_pos h2, if_pos h3, Option.some.injEq, decide_eq_decide, e]
        omega
      · rw [if_pos h1, if_pos h2, if_neg h3, decide_eq_false (fun h => by rw [e] at h; omega)]
    · rw [if_pos h1, if_neg h2, decide_eq_false (fun h => by rw [e] at h; omega)]
  · rw [if_neg h1, decide_eq_false (fun h => by rw [e] at h; omega)]
theorem bp (a c : Int) (h0 : 0 ≤ a) (h1 : a < 10007) (h2 : 0 ≤ c) (h3 : c < 10007) : 0 ≤ a * c ∧ a * c ≤ 100120036 :=
  ⟨Int.mul_nonneg h0 h2, Int.le_trans (Int.mul_le_mul (show a ≤ 10006 by omega) (show c ≤ 10006 by omega) h2 (by omega)) (by decide)⟩
theorem rmulF (a b c d : Int) (h : Gm.Ok (a, b)) (h2 : Gm.Ok (c, d)) : selvedgeref03_Mul.f a b c d = some (Gm.mul (a, b) (c, d)) := by
  have p1 := bp a c h.1 h.2.1 h2.1 h2.2.1
  have p2 := bp b d h.2.2.1 h.2.2.2 h2.2.2.1 h2.2.2.2
  have p3 := bp a d h.1 h.2.1 h2.2.2.1 h2.2.2.2
  have p4 := bp b c h.2.2.1 h.2.2.2 h2.1 h2.2.1
  unfold selvedgeref03_Mul.f Gm.mul Gm.gmul Gm.red
  rw [rmay, rmay]
  simp only [Option.bind_some, h, h2, decide_true, if_true]
  generalize a * c = u at *
  generalize b * d = v at *
  generalize a * d = s at *
  generalize b * c = t at *
  rw [wrap64_in u (by omega), wrap64_in v (by omega), wrap64_in s (by omega), wrap64_in t (by omega), wrap64_in (u + 100140049) (by omega), wrap64_in _ (by omega), wrap64_in _ (by omega), Int.tmod_eq_emod_of_nonneg (by omega), Int.tmod_eq_emod_of_nonneg (by omega)]
  congr 2
  omega
theorem rmulN (a b c d : Int) (h : ¬ (Gm.Ok (a, b) ∧ Gm.Ok (c, d))) : selvedgeref03_Mul.f a b c d = some (0, 0) := by
  unfold selvedgeref03_Mul.f
  rw [rmay, rmay]
  simp only [Option.bind_some, decide_eq_true_eq]
  by_cases h1 : Gm.Ok (a, b)
  · rw [if_pos h1, if_neg (fun h2 => h ⟨h1, h2⟩)]
  · rw [if_neg h1]
theorem rsubF (a b c d : Int) (h : Gm.Ok (a, b)) (h2 : Gm.Ok (c, d)) : selvedgeref03_Sub.f a b c d = some (Gm.sub (a, b) (c, d)) := by
  have h1' := h
  have h2' := h2
  unfold Gm.Ok at h1' h2'
  simp only at h1' h2'
  unfold selvedgeref03_Sub.f Gm.sub Gm.gsub Gm.red
  rw [rmay, rmay]
  simp only [Option.bind_some, h, h2, decide_true, if_true]
  rw [wrap64_in (a + 10007) (by omega), wrap64_in (b + 10007) (by omega), wrap64_in _ (by omega), wrap64_in _ (by omega), Int.tmod_eq_emod_of_nonneg (by omega), Int.tmod_eq_emod_of_nonneg (by omega)]
  congr 2 <;> omega
theorem rsubN (a b c d : Int) (h : ¬ (Gm.Ok (a, b) ∧ Gm.Ok (c, d))) : selvedgeref03_Sub.f a b c d = some (0, 0) := by
  unfold selvedgeref03_Sub.f
  rw [rmay, rmay]
  simp only [Option.bind_some, decide_eq_true_eq]
  by_cases h1 : Gm.Ok (a, b)
  · rw [if_pos h1, if_neg (fun h2 => h ⟨h1, h2⟩)]
  · rw [if_neg h1]
theorem qmul (x y : Gm.E) : selvedgeref03_Mul.f x.1 x.2 y.1 y.2 = some (Fl.opE Gm.mul x y) := by
  unfold Fl.opE
  by_cases h : Gm.Ok x ∧ Gm.Ok y
  · rw [if_pos h]; exact rmulF _ _ _ _ h.1 h.2
  · rw [if_neg h]; exact rmulN _ _ _ _ h
theorem qsub (x y : Gm.E) : selvedgeref03_Sub.f x.1 x.2 y.1 y.2 = some (Fl.opE Gm.sub x y) := by
  unfold Fl.opE
  by_cases h : Gm.Ok x ∧ Gm.Ok y
  · rw [if_pos h]; exact rsubF _ _ _ _ h.1 h.2
  · rw [if_neg h]; exact rsubN _ _ _ _ h
theorem rnormF (a b : Int) (h : Gm.Ok (a, b)) : selvedgeref03_Norm.f a b = some (Gm.norm (a, b)) := by
  have p1 := bp a a h.1 h.2.1 h.1 h.2.1
  have p2 := bp b b h.2.2.1 h.2.2.2 h.2.2.1 h.2.2.2
  unfold selvedgeref03_Norm.f Gm.norm
  rw [rmay]
  simp only [Option.bind_some, h, decide_true, if_true]
  rw [wrap64_in (a * a) (by omega), wrap64_in (b * b) (by omega), wrap64_in _ (by omega), Int.tmod_eq_emod_of_nonneg (by omega)]
theorem rnormN (a b : Int) (h : ¬ Gm.Ok (a, b)) : selvedgeref03_Norm.f a b = some 0 := by
  unfold selvedgeref03_Norm.f
  rw [rmay, Option.bind_some, if_neg (by simpa using h)]
theorem pm (x : Int) (n : Nat) : (x % 10007) ^ n % 10007 = x ^ n % 10007 := by
  induction n with
  | zero => simp
  | succ n ih => rw [Int.pow_succ, Int.pow_succ, Int.mul_emod, ih, Int.emod_emod_of_dvd _ (Int.dvd_refl _), ← Int.mul_emod]
def QQ : Nat := 10005
theorem wl (m : Nat) : ∀ (k : Nat) (x y : Int), m < 2 ^ k → m ≤ 10005 → 0 ≤ x → x < 10007 → 0 ≤ y → y < 10007 → selvedgeref03_whole.l0 (k + 1) x y m = some (y * x ^ m % 10007) := by
  induction m using Nat.strongRecOn with
  | _ m ih =>
    intro k x y hk hm hx hx2 hy hy2
    rw [selvedgeref03_whole.l0]
    by_cases h0 : m = 0
    · subst h0
      rw [if_neg (by decide), Int.pow_zero, Int.mul_one, Int.emod_eq_of_lt hy hy2]
    · rw [if_pos (by omega)]
      have p1 := bp x x hx hx2 hx hx2
      have p2 := bp y x hy hy2 hx hx2
      have e1 : Int.tdiv (m : Int) 2 = ((m / 2 : Nat) : Int) := by rw [Int.tdiv_eq_ediv_of_nonneg (by omega)]; omega
      have e2 : wrap64 ((m / 2 : Nat) : Int) = ((m / 2 : Nat) : Int) := wrap64_in _ (by omega)
      have e3 : Int.tmod (m : Int) 2 = ((m % 2 : Nat) : Int) := by rw [Int.tmod_eq_emod_of_nonneg (by omega)]; omega
      obtain ⟨k', rfl⟩ : ∃ k', k = k' + 1 := ⟨k - 1, by
        have : k ≠ 0 := by rintro rfl; simp at hk; omega
        omega⟩
      have hk' : m / 2 < 2 ^ k' := by rw [Nat.pow_succ] at hk; omega
      have sq : (x * x % 10007) ^ (m / 2) % 10007 = x ^ (2 * (m / 2)) % 10007 := by
        rw [Int.pow_mul, Int.pow_succ, Int.pow_succ, Int.pow_zero, Int.one_mul, pm]
      rw [e1, e2, e3, wrap64_in (x * x) (by omega), wrap64_in (y * x) (by omega), Int.tmod_eq_emod_of_nonneg p1.1, Int.tmod_eq_emod_of_nonneg p2.1]
      by_cases hodd : m % 2 = 1
      · rw [if_pos (by omega)]
        refine (ih (m / 2) (by omega) k' _ _ hk' (by omega) (by omega) (by omega) (by omega) (by omega)).trans ?_
        have e : x ^ m = x * x ^ (2 * (m / 2)) := by
          have e : m = 2 * (m / 2) + 1 := by omega
          have e2 : x ^ m = x ^ (2 * (m / 2) + 1) := congrArg (fun n => x ^ n) e
          rw [e2, Int.pow_succ, Int.mul_comm]
        rw [e, ← Int.mul_assoc, Int.mul_emod, sq, ← Int.mul_emod, Int.mul_emod, Int.emod_emod_of_dvd _ (Int.dvd_refl _), ← Int.mul_emod]
      · rw [if_neg (by omega)]
        refine (ih (m / 2) (by omega) k' _ _ hk' (by omega) (by omega) (by omega) hy hy2).trans ?_
        have e : m = 2 * (m / 2) := by omega
        have e' : x ^ m = x ^ (2 * (m / 2)) := congrArg (fun n => x ^ n) e
        rw [e', Int.mul_emod, sq, ← Int.mul_emod]
theorem whole (k : Nat) (n : Int) (h0 : 0 ≤ n) (h1 : n < 10007) : selvedgeref03_whole.f (k + 15) n = some (n ^ QQ % 10007) := by
  unfold selvedgeref03_whole.f
  refine (wl QQ (k + 14) n 1 (Nat.lt_of_lt_of_le (by decide : QQ < 2 ^ 14) (Nat.pow_le_pow_right (by decide) (by omega))) (Nat.le_refl _) h0 h1 (by decide) (by decide)).trans ?_
  rw [Int.one_mul]
theorem norm_inv {x : Gm.E} (h : Gm.Ok x) (h0 : x ≠ (0, 0)) : Gm.norm x * (Gm.norm x ^ QQ % 10007) % 10007 = 1 := by
  have hn : Gm.norm x % 10007 ≠ 0 := by
    intro e
    refine h0 (Gm.norm_zero h ?_)
    unfold Gm.norm at e ⊢
    omega
  have := Gm.fermat_one hn
  have e : Gm.norm x ^ 10006 = Gm.norm x * Gm.norm x ^ QQ := by
    rw [show (10006 : Nat) = QQ + 1 from rfl, Int.pow_succ, Int.mul_comm]
  rw [e] at this
  rw [Int.mul_emod, Int.emod_emod_of_dvd _ (Int.dvd_refl _), ← Int.mul_emod]
  omega
theorem j0T (k : Nat) (a b : Int) : selvedgeref03_Inv.j0 (k + 1) true a b = some (0, 0, 1) := by rw [selvedgeref03_Inv.j0, if_pos rfl]
theorem rinv (a b : Int) (h : Gm.Ok (a, b)) (h0 : (a, b) ≠ ((0, 0) : Gm.E)) : selvedgeref03_Inv.j0 16 false a b = some ((Gm.pow (a, b) Gm.NN).1, (Gm.pow (a, b) Gm.NN).2, 0) := by
  have h' := h
  unfold Gm.Ok at h'
  simp only at h'
  have bn : 0 ≤ Gm.norm (a, b) ∧ Gm.norm (a, b) < 10007 := by unfold Gm.norm; omega
  rw [selvedgeref03_Inv.j0, if_neg (by decide), rnormF a b h, Option.bind_some, whole 0 _ bn.1 bn.2, Option.bind_some]
  have ni := norm_inv h h0
  generalize hq : Gm.norm (a, b) ^ QQ % 10007 = q at *
  have bq : 0 ≤ q ∧ q < 10007 := by omega
  have p1 := bp a q h'.1 h'.2.1 bq.1 bq.2
  have e0 : Int.tmod (wrap64 (10007 - b)) 10007 = -b % 10007 := by
    rw [wrap64_in _ (by omega), Int.tmod_eq_emod_of_nonneg (by omega)]; omega
  rw [e0]
  have p2 := bp (-b % 10007) q (by omega) (by omega) bq.1 bq.2
  rw [wrap64_in (a * q) (by omega), wrap64_in _ (by omega), Int.tmod_eq_emod_of_nonneg p1.1, Int.tmod_eq_emod_of_nonneg p2.1]
  have e : ((a * q % 10007, -b % 10007 * q % 10007) : Gm.E) = Gm.mul (Gm.conj (a, b)) (q, 0) := by
    unfold Gm.mul Gm.gmul Gm.conj Gm.red
    simp only [Int.mul_zero, Int.sub_zero, Int.zero_add]
    rw [Int.emod_eq_of_lt h'.1 h'.2.1]
  have e2 : Gm.mul (a, b) (Gm.mul (Gm.conj (a, b)) (q, 0)) = (1, 0) := by
    rw [← Gm.mul_assoc, Gm.mul_conj]
    unfold Gm.mul Gm.gmul Gm.red
    simp only [Int.mul_zero, Int.zero_mul, Int.sub_zero, Int.add_zero]
    rw [ni]
    rfl
  have e3 := Gm.inv_unique (Gm.pow_ok (a, b) Gm.NN) (Gm.mul_ok _ _) (Gm.mul_inv h h0) e2
  rw [e3, ← e]
theorem gI (a b : Int) (h : Gm.Ok (a, b)) (h0 : (a, b) ≠ ((0, 0) : Gm.E)) : selvedgeref03_Inv.f 16 a b = some ((Gm.pow (a, b) Gm.NN).1, (Gm.pow (a, b) Gm.NN).2, 0) := by
  unfold selvedgeref03_Inv.f
  rw [rmay, Option.bind_some, if_pos (by simpa using h)]
  by_cases h1 : a = 0
  · have : (b == 0) = false := by
      rw [beq_eq_false_iff_ne]
      intro h2
      exact h0 (by rw [h1, h2])
    rw [if_pos h1, this]
    exact rinv a b h h0
  · rw [if_neg h1]
    exact rinv a b h h0
theorem rd_is (l : List S23) {i : Nat} (hi : i < l.length) : ((rd_T23 l (i : Int)).f0, (rd_T23 l (i : Int)).f1) = (eE l).getD i (0, 0) := by
  unfold eE rd_T23
  simp [List.getElem?_eq_getElem hi]
theorem len_ok {l : List S23} (h : l.length * 16 ≤ 140737488351232) : l.length ≤ 9223372036854775000 := by omega
theorem succ_ok {i n : Nat} (h : i < n) (hn : n ≤ 9223372036854775000) : wrap64 ((i : Int) + 1) = ((i + 1 : Nat) : Int) := by rw [wrap64_in _ (by omega)]; omega
theorem right_l (l : List S23) (hl : l.length ≤ 9223372036854775000) (r : Nat) : ∀ (m i : Nat), i + m = l.length → ∃ b, selvedgelaw04_right.l0 (r + m + 1) l i = some b ∧ (b = true ↔ ∀ j, i ≤ j → j < l.length → Gm.Ok ((eE l).getD j (0, 0)))
  | 0, i, hi => by
    rw [selvedgelaw04_right.l0, if_neg (by omega)]
    exact ⟨true, rfl, fun _ j h1 h2 => by omega, fun _ => rfl⟩
  | m + 1, i, hi => by
    rw [show r + (m + 1) + 1 = (r + m + 1) + 1 by omega, selvedgelaw04_right.l0, if_pos (by omega), if_pos (by omega), rmay, Option.bind_some, rd_is l (by omega), succ_ok (show i < l.length by omega) hl]
    by_cases ok : Gm.Ok ((eE l).getD i (0, 0))
    · rw [if_pos (by simpa using ok)]
      obtain ⟨b, hb, hx⟩ := right_l l hl r m (i + 1) (by omega)
      refine ⟨b, hb, hx.trans ⟨fun h j h1 h2 => ?_, fun h j h1 h2 => h j (by omega) h2⟩⟩
      by_cases e : j = i
      · rw [e]; exact ok
      · exact h j (by omega) h2
    · rw [if_neg (by simpa using ok)]
      exact ⟨false, rfl, fun h => (by cases h), fun h => absurd (h i (Nat.le_refl _) (by omega)) ok⟩
theorem right_is (l : List S23) (hl : l.length ≤ 9223372036854775000) (r : Nat) : ∃ b, selvedgelaw04_right.f (r + l.length + 1) l = some b ∧ (b = true → ∀ c ∈ eE l, Gm.Ok c) := by
  obtain ⟨b, h1, h2⟩ := right_l l hl r l.length 0 (by omega)
  refine ⟨b, h1, fun h c hc => ?_⟩
  obtain ⟨j, hj, rfl⟩ := List.getElem_of_mem hc
  have := h2.1 h j (Nat.zero_le _) (by rw [← eE_length]; exact hj)
  rw [List.getD_eq_getElem?_getD, List.getElem?_eq_getElem hj] at this
  exact this
theorem good_snoc {l : List Int} {x : Int} (h : Fl.Good l) (h1 : 1 ≤ x) (h2 : x ≤ 64) (hn : ∀ t, t < l.length → rd l t ≠ x) : Fl.Good (l ++ [x]) := by
  constructor
  · rw [List.nodup_append]
    refine ⟨h.1, by simp, fun a ha b hb => ?_⟩
    obtain rfl := List.mem_singleton.1 hb
    obtain ⟨t, ht, rfl⟩ := List.getElem_of_mem ha
    have := hn t ht
    unfold rd at this
    rw [Int.toNat_natCast, List.getD_eq_getElem?_getD, List.getElem?_eq_getElem ht] at this
    exact this
  · intro y hy
    rcases List.mem_append.1 hy with hy | hy
    · exact h.2 y hy
    · obtain rfl := List.mem_singleton.1 hy
      exact ⟨h1, h2⟩
theorem good_len {l : List Int} (h : Fl.Good l) : l.length ≤ 64 := Fl.nodup_le 64 l h.1 h.2
theorem distinct_l1 (x0 out : List Int) (i : Nat) (hi : i < x0.length) (hl : x0.length ≤ 9223372036854775000) (hg : Fl.Good out)
    (cont : ∀ o, Fl.Good o → ∃ r, Fl.Good r ∧ Fl.Ev (fun k => selvedgelaw04_distinct.l0 k x0 o ((i + 1 : Nat) : Int)) r) :
    ∀ (m j : Nat) (b : Bool), j + m = out.length → (b = false → 1 ≤ rd x0 i ∧ rd x0 i ≤ 64 ∧ ∀ t, t < j → rd out t ≠ rd x0 i) → ∃ r, Fl.Good r ∧ Fl.Ev (fun k => selvedgelaw04_distinct.l1 k x0 out i b j) r
  | 0, j, true, hj, _ => by
    obtain ⟨r, g, e⟩ := cont out hg
    refine ⟨r, g, e.step fun k => ?_⟩
    rw [selvedgelaw04_distinct.l1, if_neg (by omega), if_pos rfl, succ_ok hi hl]
  | 0, j, false, hj, hb => by
    obtain ⟨h1, h2, h3⟩ := hb rfl
    obtain ⟨r, g, e⟩ := cont (out ++ [rd x0 i]) (good_snoc hg h1 h2 fun t ht => h3 t (by omega))
    refine ⟨r, g, e.step fun k => ?_⟩
    have := good_len hg
    rw [selvedgelaw04_distinct.l1, if_neg (by omega), if_neg (by decide), if_pos (by omega), if_pos (by omega), if_pos (by omega), succ_ok hi hl]
  | m + 1, j, true, hj, _ => by
    have hlo := good_len hg
    obtain ⟨r, g, e⟩ := distinct_l1 x0 out i hi hl hg cont m (j + 1) true (by omega) (by simp)
    refine ⟨r, g, e.step fun k => ?_⟩
    rw [selvedgelaw04_distinct.l1, if_pos (by omega), if_pos rfl, succ_ok (show j < out.length by omega) (by omega)]
  | m + 1, j, false, hj, hb => by
    have hlo := good_len hg
    obtain ⟨h1, h2, h3⟩ := hb rfl
    obtain ⟨r, g, e⟩ := distinct_l1 x0 out i hi hl hg cont m (j + 1) (rd out j == rd x0 i) (by omega) (fun hq => ⟨h1, h2, fun t ht => by
      by_cases e : t = j
      · subst e
        simpa using hq
      · exact h3 t (by omega)⟩)
    refine ⟨r, g, e.step fun k => ?_⟩
    rw [selvedgelaw04_distinct.l1, if_pos (by omega), if_neg (by decide), if_pos (by omega), if_pos (by omega), if_pos (by omega), succ_ok (show j < out.length by omega) (by omega)]
theorem distinct_l0 (x0 : List Int) (hl : x0.length ≤ 9223372036854775000) : ∀ (m i : Nat) (out : List Int), i + m = x0.length → Fl.Good out → ∃ r, Fl.Good r ∧ Fl.Ev (fun k => selvedgelaw04_distinct.l0 k x0 out i) r
  | 0, i, out, hi, hg => by
    refine ⟨out, hg, Fl.Ev.step (g := fun _ => some out) (Fl.Ev.const fun _ => rfl) fun k => ?_⟩
    rw [selvedgelaw04_distinct.l0, if_neg (by omega)]
  | m + 1, i, out, hi, hg => by
    have hin : i < x0.length := by omega
    have cont := fun o ho => distinct_l0 x0 hl m (i + 1) o (by omega) ho
    by_cases h1 : rd x0 i < 1
    · obtain ⟨r, g, e⟩ := distinct_l1 x0 out i hin hl hg cont out.length 0 true (by omega) (by simp)
      refine ⟨r, g, (e.step (f := fun k => selvedgelaw04_distinct.j1 k x0 out i true) fun k => by rw [selvedgelaw04_distinct.j1]; rfl).step fun k => ?_⟩
      rw [selvedgelaw04_distinct.l0, if_pos (by omega), if_pos (by omega), if_pos h1]
    · obtain ⟨r, g, e⟩ := distinct_l1 x0 out i hin hl hg cont out.length 0 (decide (rd x0 i > 64)) (by omega) (fun hq => by
        rw [decide_eq_false_iff_not] at hq
        exact ⟨by omega, by omega, fun t ht => by omega⟩)
      refine ⟨r, g, (e.step (f := fun k => selvedgelaw04_distinct.j1 k x0 out i (decide (rd x0 i > 64))) fun k => by rw [selvedgelaw04_distinct.j1]; rfl).step fun k => ?_⟩
      rw [selvedgelaw04_distinct.l0, if_pos (by omega), if_pos (by omega), if_neg h1]
theorem distinct_ev (l : List Int) (hl : l.length * 8 ≤ 140737488351232) : ∃ r, Fl.Good r ∧ Fl.Ev (fun k => selvedgelaw04_distinct.f k l) r :=
  distinct_l0 l (by omega) l.length 0 [] (by omega) ⟨List.nodup_nil, by simp⟩
theorem eS_snoc (l : List S43) (s : S43) : eS (l ++ [s]) = eS l ++ [(s.f0, (s.f1.f0, s.f1.f1))] := by simp [eS]
theorem rd_get {l : List Int} {i : Nat} (hi : i < l.length) : rd l i = l[i] := by
  unfold rd
  rw [Int.toNat_natCast, List.getD_eq_getElem?_getD, List.getElem?_eq_getElem hi]
  rfl
theorem Good.at_ {l : List Int} (h : Fl.Good l) {i : Nat} (hi : i < l.length) : 1 ≤ rd l i ∧ rd l i ≤ 64 := by
  rw [rd_get hi]
  exact h.2 _ (List.getElem_mem hi)
theorem rd43 (s : List S43) {i : Nat} (hi : i < s.length) : ((rd_T43 s (i : Int)).f0, ((rd_T43 s (i : Int)).f1.f0, (rd_T43 s (i : Int)).f1.f1)) = (eS s).getD i (0, (0, 0)) := by
  unfold eS rd_T43
  simp [List.getElem?_eq_getElem hi]
theorem eS_set (s : List S43) {i : Nat} (hi : i < s.length) (a b : Int) : eS (s.set i ⟨(rd_T43 s (i : Int)).f0, ⟨a, b⟩⟩) = Fl.put (eS s) i (a, b) := by
  have h := congrArg (·.1) (rd43 s hi)
  simp only at h
  unfold Fl.put Fl.idAt
  rw [← h]
  unfold eS
  rw [List.map_set]
theorem good_take {l : List Int} (h : Fl.Good l) (n : Nat) : Fl.Good (l.take n) := ⟨h.1.sublist (List.take_sublist _ _), fun x hx => h.2 x (List.mem_of_mem_take hx)⟩
theorem eqE (x : Gm.E) (a b : Int) : (x.1 == a && x.2 == b) = decide (x = (a, b)) := by
  rw [Bool.eq_iff_iff]
  obtain ⟨u, v⟩ := x
  simp
theorem eqE' (a b c d : Int) : (a == c && b == d) = decide (((a, b) : Gm.E) = (c, d)) := by
  rw [Bool.eq_iff_iff]; simp
theorem inv_ev (x : Gm.E) (h : Gm.Ok x) (h0 : x ≠ (0, 0)) : Fl.Ev (fun k => selvedgeref03_Inv.f k x.1 x.2) ((Gm.inv x).1, (Gm.inv x).2, 0) :=
  Fl.Ev.of_mono (f := fun k => selvedgeref03_Inv.f k x.1 x.2) (fun k r h => selvedgeref03_Inv.mono _ _ _ r h) (gI x.1 x.2 h h0)
theorem weight_ev (s : List S43) (i : Nat) (hi : i < s.length) (hl : s.length ≤ 9223372036854775000) (hap : Fl.Apart (eS s)) : Fl.Ev (fun k => share_Weight.f k s i) ((Fl.wtE (eS s) i).1, (Fl.wtE (eS s) i).2, 0) := by
  refine Fl.Ev.of_eq (g := fun k => (share_weight.f k s i).bind fun t => some (t.1, t.2, 0)) ?_ (fun k => ?_)
  · exact (Fl.Ev.of_mono (f := fun k => share_weight.f k s i) (fun k r h => share_weight.mono _ _ _ r h) (weight_is s i (by omega) (by omega))).bind (g := fun _ (t : Int × Int) => some (t.1, t.2, (0 : Int))) (Fl.Ev.const fun _ => rfl)
  · unfold share_Weight.f share_apart.f
    rw [if_neg (by omega), if_neg (by omega), (Fl.apB_iff _).2 hap, Option.bind_some, if_pos rfl]
/-- The last share, put so that the other secret comes out. -/
theorem fits {l : Fl.Row} (hap : Fl.Apart l) (hok : ∀ i, i < l.length → Gm.Ok (Fl.vAt l i)) {a : Nat} (ha : a < l.length) (h0 : Fl.vAt l a = (0, 0)) {x : Gm.E} (hx : Gm.Ok x) :
    Fl.secret (Fl.put l a (Gm.mul (Gm.sub x (Fl.secret l)) (Gm.inv (Gm.lag (Fl.xAt l) l.length (0, 0) a)))) = x := by
  have hg := Fl.lag_ne hap ha
  have hgo := Fl.lag_ok (Fl.xAt l) l.length (0, 0) a
  have hd := Fl.secret_diff (m := Fl.put l a (Gm.mul (Gm.sub x (Fl.secret l)) (Gm.inv (Gm.lag (Fl.xAt l) l.length (0, 0) a)))) (Fl.put_length _ _ _) (fun i _ => Fl.put_id _ _ ha i) ha (fun i _ hne => Fl.put_v' _ _ hne) (hok a ha) (by rw [Fl.put_v _ _ ha]; exact Gm.mul_ok _ _)
  rw [hd, Fl.put_v _ _ ha, h0, Gm.sub_zero (Gm.mul_ok _ _), Gm.mul_assoc, Gm.mul_comm (Gm.inv _), Gm.mul_inv' hgo hg, Gm.mul_one (Gm.sub_ok _ _), Gm.add_comm, Gm.sub_add_cancel _ hx]
theorem end_ev (p : List S23) (hp : ∀ c ∈ eE p, Gm.Ok c) (hp0 : 2 ≤ p.length) (hp1 : p.length ≤ 12) (out : List Int) (hg : Fl.Good out) (hn : p.length ≤ out.length) (x : Gm.E) (hx : Gm.Ok x) (s : List S43) (i : Nat) (hi : i + 1 = p.length) (hs : eS s = (out.take i).map (fun x => (x, Gm.ev (eE p) (x, 0)))) :
    Fl.Ev (fun k => selvedgelaw04_ShareHides.l0 k p out (p.length : Int) s i x.1 x.2) true := by
  have hsl : s.length = i := by
    have := congrArg List.length hs
    rw [eS_length, List.length_map, List.length_take] at this
    omega
  have hlo := good_len hg
  obtain ⟨y, hy⟩ : ∃ y : List S43, y = ([] ++ s) ++ [⟨rd out (i : Int), ⟨0, 0⟩⟩] := ⟨_, rfl⟩
  have hyS : eS y = (out.take i).map (fun x => (x, Gm.ev (eE p) (x, 0))) ++ [(rd out (i : Int), (0, 0))] := by rw [hy, List.nil_append, eS_snoc, hs]
  have hyl : y.length = i + 1 := by rw [hy, List.nil_append, List.length_append, hsl]; rfl
  have hySl : (eS y).length = i + 1 := by rw [eS_length, hyl]
  have hap : Fl.Apart (eS y) := Fl.apart_of (good_take hg (i + 1)) (by
    rw [hyS, List.map_append, List.map_map, List.take_succ_eq_append_getElem (show i < out.length by omega), rd_get (by omega)]
    congr 1
    exact List.map_id' _)
  have hlast : (eS y).getD i (0, (0, 0)) = (rd out (i : Int), (0, 0)) := by
    rw [hyS, List.getD_eq_getElem?_getD, List.getElem?_append_right (by rw [List.length_map, List.length_take]; omega)]
    have : i - ((out.take i).map (fun x => (x, Gm.ev (eE p) (x, 0)))).length = 0 := by rw [List.length_map, List.length_take]; omega
    rw [this]
    rfl
  have h0 : Fl.vAt (eS y) i = (0, 0) := congrArg (·.2) hlast
  have hok : ∀ j, j < (eS y).length → Gm.Ok (Fl.vAt (eS y) j) := by
    intro j hj
    by_cases e : j = i
    · rw [e, h0]; exact Gm.zero_ok
    · have : Fl.vAt (eS y) j = Gm.ev (eE p) (out[j]'(by omega), 0) := by
        unfold Fl.vAt
        rw [hyS, List.getD_eq_getElem?_getD, List.getElem?_append_left (by rw [List.length_map, List.length_take]; omega), List.getElem?_eq_getElem (by rw [List.length_map, List.length_take]; omega)]
        rw [Option.getD_some, List.getElem_map, List.getElem_take]
      rw [this]; exact Gm.ev_ok _ _
  have hiL : i < (eS y).length := by omega
  have hlag := Fl.wtE_lag hap hiL
  have hgo := Fl.lag_ok (Fl.xAt (eS y)) (eS y).length (0, 0) i
  have hgn := Fl.lag_ne hap hiL
  have hw := weight_ev y i (by omega) (by omega) hap
  rw [hlag] at hw
  have hi' := inv_ev _ hgo hgn
  have hf := fits hap hok hiL h0 hx
  have hv := Gm.mul_ok (Gm.sub x (Fl.secret (eS y))) (Gm.inv (Gm.lag (Fl.xAt (eS y)) (eS y).length (0, 0) i))
  have ew : wrap64 ((p.length : Int) - 1) = (i : Int) := by rw [wrap64_in _ (by omega)]; omega
  have e1 : wrap64 ((i : Int) + 1) = ((i + 1 : Nat) : Int) := by rw [wrap64_in _ (by omega)]; omega
  have hj2 : Fl.Ev (fun k => selvedgelaw04_ShareHides.j2 k (p.length : Int) y false x.1 x.2 (Fl.secret (eS y)).1 (Fl.secret (eS y)).2 (Gm.inv (Gm.lag (Fl.xAt (eS y)) (eS y).length (0, 0) i)).1 (Gm.inv (Gm.lag (Fl.xAt (eS y)) (eS y).length (0, 0) i)).2) true := by
    refine Fl.Ev.step (g := fun _ => some true) (Fl.Ev.const fun _ => rfl) fun k => ?_
    rw [selvedgelaw04_ShareHides.j2, if_neg (by decide), qsub, Option.bind_some, Fl.opE_of hx (Fl.secret_ok _), qmul, Option.bind_some, Fl.opE_of (Gm.sub_ok _ _) (Gm.inv_ok _), ew, if_pos (by omega), if_pos (by omega)]
    unfold share_Open.f
    rw [Int.toNat_natCast, eS_set y (by omega), Fl.openE_yes (by rw [Fl.put_length]; omega) (Fl.put_apart hap _ hiL) (Fl.put_ok hok hiL hv), hf, Option.bind_some, if_pos rfl]
    simp
  obtain ⟨kw, hw⟩ := hw
  obtain ⟨ki, hi2⟩ := hi'
  obtain ⟨kj, hj2⟩ := hj2
  have hw : ∀ k, kw ≤ k → share_Weight.f k y (i : Int) = _ := hw
  have hi2 : ∀ k, ki ≤ k → selvedgeref03_Inv.f k _ _ = _ := hi2
  refine ⟨max (max kw ki) kj + 1, fun k hk => ?_⟩
  obtain ⟨k', rfl⟩ : ∃ k', k = k' + 1 := ⟨k - 1, by omega⟩
  show selvedgelaw04_ShareHides.l0 (k' + 1) p out (p.length : Int) s i x.1 x.2 = some true
  rw [selvedgelaw04_ShareHides.l0, e1, if_neg (by omega), ew, if_pos (by omega), if_pos (by omega), Option.bind_some, if_pos (by rw [hsl]; simp only [List.length_nil]; omega), Option.bind_some, if_pos (by rw [List.nil_append, hsl]; omega), Option.bind_some, ← hy]
  unfold share_Open.f
  rw [Fl.openE_yes (by omega) hap hok, Option.bind_some, hw k' (by omega), Option.bind_some, hi2 k' (by omega), Option.bind_some, if_pos rfl, if_pos rfl]
  exact hj2 k' (by omega)
theorem make_ev (p : List S23) (hp : ∀ c ∈ eE p, Gm.Ok c) (hp0 : 2 ≤ p.length) (hp1 : p.length ≤ 12) (out : List Int) (hg : Fl.Good out) (hn : p.length ≤ out.length) (x : Gm.E) (hx : Gm.Ok x) : ∀ (m i : Nat) (s : List S43), i + 1 + m = p.length → eS s = (out.take i).map (fun x => (x, Gm.ev (eE p) (x, 0))) → Fl.Ev (fun k => selvedgelaw04_ShareHides.l0 k p out (p.length : Int) s i x.1 x.2) true
  | 0, i, s, hi, hs => end_ev p hp hp0 hp1 out hg hn x hx s i (by omega) hs
  | m + 1, i, s, hi, hs => by
    have hlo := good_len hg
    have hsl : s.length = i := by
      have := congrArg List.length hs
      rw [eS_length, List.length_map, List.length_take] at this
      omega
    obtain ⟨h1, h2⟩ := Good.at_ hg (show i < out.length by omega)
    refine (make_ev p hp hp0 hp1 out hg hn x hx m (i + 1) (s ++ [⟨rd out i, ⟨(Gm.ev (eE p) (rd out i, 0)).1, (Gm.ev (eE p) (rd out i, 0)).2⟩⟩]) (by omega) ?_).step fun k => ?_
    · rw [eS_snoc, hs, List.take_succ_eq_append_getElem (by omega), List.map_append, rd_get (by omega)]
      rfl
    · rw [selvedgelaw04_ShareHides.l0, succ_ok (show i < p.length by omega) (by omega), if_pos (by omega), if_pos (by omega), if_pos (by omega)]
      unfold share_Of.f
      rw [Fl.ofE_ok h1 h2 hp, Option.bind_some, if_pos (by omega)]
theorem j0_ev (p : List S23) (out : List Int) (hg : Fl.Good out) (x : Gm.E) (z : Bool) (hz : z = false → (∀ c ∈ eE p, Gm.Ok c) ∧ 2 ≤ p.length ∧ p.length ≤ 12 ∧ p.length ≤ out.length ∧ Gm.Ok x) : Fl.Ev (fun k => selvedgelaw04_ShareHides.j0 k p true out (p.length : Int) z x.1 x.2) true := by
  cases z with
  | true =>
    refine Fl.Ev.step (g := fun _ => some true) (Fl.Ev.const fun _ => rfl) fun k => ?_
    rw [selvedgelaw04_ShareHides.j0, if_pos rfl]
  | false =>
    obtain ⟨h1, h2, h3, h4, h5⟩ := hz rfl
    refine (make_ev p h1 h2 h3 out hg h4 x h5 (p.length - 1) 0 [] (by omega) rfl).step fun k => ?_
    rw [selvedgelaw04_ShareHides.j0, if_neg (by decide)]
    rfl
theorem ShareHides : selvedgelaw04_ShareHides.Pure := by
  intro p l x hp hl _
  obtain ⟨out, hg, kd, hd⟩ := distinct_ev l hl.1
  obtain ⟨b, hb, ho⟩ := right_is p (len_ok hp.1) 0
  obtain ⟨kr, hr⟩ : Fl.Ev (fun k => selvedgelaw04_right.f k p) b := Fl.Ev.of_mono (fun k r h => selvedgelaw04_right.mono _ _ r h) hb
  have hd : ∀ k, kd ≤ k → selvedgelaw04_distinct.f k l = some out := hd
  have hr : ∀ k, kr ≤ k → selvedgelaw04_right.f k p = some b := hr
  by_cases hC : b = true ∧ Gm.Ok (x.f0, x.f1) ∧ ¬ (p.length : Int) < 2 ∧ ¬ (p.length : Int) > 12
  · obtain ⟨c1, c2, c3, c4⟩ := hC
    obtain ⟨kz, hz⟩ := j0_ev p out hg (x.f0, x.f1) (decide ((out.length : Int) < (p.length : Int))) (fun hq => by
      rw [decide_eq_false_iff_not] at hq
      exact ⟨ho c1, by omega, by omega, by omega, c2⟩)
    refine ⟨max (max kd kr) kz, ?_⟩
    unfold selvedgelaw04_ShareHides.f
    rw [shown, Option.bind_some, hd _ (by omega), Option.bind_some, hr _ (by omega), Option.bind_some, rmay, Option.bind_some, if_pos rfl, c1, if_pos rfl, if_pos (by simpa using c2), if_neg c3, if_neg c4]
    exact hz _ (by omega)
  · obtain ⟨kt, ht⟩ := j0_ev p out hg (x.f0, x.f1) true (by simp)
    refine ⟨max (max kd kr) kt, ?_⟩
    have htt := ht (max (max kd kr) kt) (by omega)
    unfold selvedgelaw04_ShareHides.f
    rw [shown, Option.bind_some, hd _ (by omega), Option.bind_some, hr _ (by omega), Option.bind_some, rmay, Option.bind_some, if_pos rfl]
    by_cases c1 : b = true
    · rw [if_pos c1]
      by_cases c2 : Gm.Ok (x.f0, x.f1)
      · rw [if_pos (by simpa using c2)]
        by_cases c3 : (p.length : Int) < 2
        · rw [if_pos c3]; exact htt
        · rw [if_neg c3]
          by_cases c4 : (p.length : Int) > 12
          · rw [if_pos c4]; exact htt
          · exact absurd ⟨c1, c2, c3, c4⟩ hC
      · rw [if_neg (by simpa using c2)]; exact htt
    · rw [if_neg c1]; exact htt

end Go.Proofs.Ytokkkeepifpbpaa.Pure
