import Derived.Test.YtiknkkkfkifahaaDz
import Derived.Lib.EndianBits
import Derived.Lib.Strings
/-
  The plain law of frames: what TakeNum, TakeText take of bytes, and what records bytes hold. No program. By an AI agent.
-/
namespace Go.Proofs.Ytiknkkkfkifahaa.Sa
open Go.Proofs.Ytiknkkkfkifahaa.Sm
open Go Go.RowKit Go.Proofs.YtiknkkkfkifahaaW.PrintWords
set_option linter.unusedVariables false
set_option linter.unusedSimpArgs false

/-! bytes -/
theorem bt_get {s : ByteArray} {i : Nat} (h : i < s.size) : bt s (i : Int) = (s[i].toNat : Int) := by
  unfold bt
  have h' : ((i : Int)).toNat < s.size := by rw [Int.toNat_natCast]; exact h
  rw [dif_pos h']
  simp only [Int.toNat_natCast]
theorem bt_lt (s : ByteArray) (i : Int) : (bt s i).toNat < 256 := by have := bt_range s i; omega
theorem bt_nn (s : ByteArray) (i : Int) : ((bt s i).toNat : Int) = bt s i := by have := bt_range s i; omega
theorem bt_app_l {a b : ByteArray} {i : Nat} (h : i < a.size) : bt (a ++ b) (i : Int) = bt a (i : Int) := by
  rw [bt_get (by rw [ByteArray.size_append]; omega), bt_get h, ByteArray.getElem_append_left h]
theorem bt_ext {s : ByteArray} {i j e : Nat} (h : j + i < e) (he : e ≤ s.size) : bt (s.extract j e) (i : Int) = bt s ((j + i : Nat) : Int) := by
  rw [bt_get (by rw [ByteArray.size_extract]; omega), bt_get (by omega), ByteArray.getElem_extract]
theorem ba_ext {a b : ByteArray} (h : a.size = b.size) (h2 : ∀ i, i < a.size → bt a ((i : Nat) : Int) = bt b (i : Int)) : a = b := by
  refine ByteArray.ext_getElem h (fun i hi hi' => ?_)
  have := h2 i hi
  rw [bt_get hi, bt_get hi'] at this
  exact UInt8.toNat_inj.1 (by omega)
theorem ba_toList {a b : ByteArray} : a.toList = b.toList ↔ a = b := by
  rw [Lib.toList_data, Lib.toList_data]
  constructor
  · intro h; exact ByteArray.ext (Array.ext' h)
  · rintro rfl; rfl
theorem ba_nil {s : ByteArray} : s.toList = ([] : List UInt8) ↔ s.size = 0 := by
  rw [Lib.toList_data]
  constructor
  · intro h; have := congrArg List.length h; rw [Array.length_toList] at this; exact this
  · intro h; exact List.eq_nil_of_length_eq_zero (by rw [Array.length_toList]; exact h)
theorem cut_join {s : ByteArray} {k : Nat} (h : k ≤ s.size) : s.extract 0 k ++ s.extract k s.size = s := by
  rw [ByteArray.extract_append_extract, Nat.zero_min, Nat.max_eq_right h, ByteArray.extract_zero_size]

theorem tail_of {s f r : ByteArray} {i : Nat} (hi : i ≤ s.size) (e : s.extract i s.size = f ++ r) : s.extract (s.size - r.size) s.size = r := by
  have hz := congrArg ByteArray.size e
  rw [ByteArray.size_append, ByteArray.size_extract] at hz
  have e2 : (f ++ r).extract f.size (f ++ r).size = r := ByteArray.extract_append_eq_right rfl (by rw [ByteArray.size_append])
  rw [← e, ByteArray.extract_extract, ByteArray.size_extract] at e2
  rw [show s.size - r.size = i + f.size by omega]
  rw [show min (i + (min s.size s.size - i)) s.size = s.size by omega] at e2
  exact e2

theorem ext_big {a b : ByteArray} {c : Nat} (h : a.size ≤ c) : (a ++ b).extract 0 c = a ++ b.extract 0 (c - a.size) := by
  have e : a.extract 0 c = a := by
    have := ByteArray.extract_zero_max_size (a := a) (i := c)
    rwa [Nat.max_eq_left h] at this
  rw [ByteArray.extract_append, e, Nat.zero_sub]
theorem ext_small {a b : ByteArray} {c : Nat} (h : c ≤ a.size) : (a ++ b).extract 0 c = a.extract 0 c := by
  have : b.extract (0 - a.size) (c - a.size) = ByteArray.empty := ByteArray.extract_eq_empty_iff.2 (by omega)
  rw [ByteArray.extract_append, this, ByteArray.append_empty]

/-! numbers -/
def valN (s : ByteArray) : Nat → Nat
  | 0 => 0
  | k + 1 => valN s k * 256 + (bt s ((k + 1 : Nat) : Int)).toNat
theorem valN_lt (s : ByteArray) : ∀ k, valN s k < 256 ^ k
  | 0 => by simp [valN]
  | k + 1 => by
    have ih := valN_lt s k
    have hb := bt_lt s ((k + 1 : Nat) : Int)
    rw [valN, Nat.pow_succ]
    omega
theorem valN_64 (s : ByteArray) {k : Nat} (h : k ≤ 8) : valN s k < 18446744073709551616 := by
  have h1 : (256 : Nat) ^ k ≤ 256 ^ 8 := Nat.pow_le_pow_right (by decide) h
  exact Nat.lt_of_lt_of_le (valN_lt s k) (Nat.le_trans h1 (by decide))
theorem valN_div (s : ByteArray) (n : Nat) : ∀ d k, n = k + d → valN s n / 256 ^ d = valN s k
  | 0, k, h => by rw [Nat.pow_zero, Nat.div_one, h, Nat.add_zero]
  | d + 1, k, h => by
    have ih := valN_div s n d (k + 1) (by omega)
    have hb := bt_lt s ((k + 1 : Nat) : Int)
    rw [Nat.pow_succ, ← Nat.div_div_eq_div_mul, ih, valN]
    omega
theorem dg_get : ∀ (k v j : Nat) (h : j < (dg k v).length), (dg k v)[j] = ((v / 256 ^ (k - 1 - j) % 256 : Nat) : Int)
  | 0, v, j, h => by simp [dg] at h
  | k + 1, v, 0, h => by simp [dg]
  | k + 1, v, j + 1, h => by
    have h' : j < (dg k v).length := by simpa [dg] using h
    have := dg_get k v j h'
    simp only [dg, List.getElem_cons_succ, this]
    congr 4
    omega
theorem bt_nums (xs : List Int) (i : Nat) (h : i < xs.length) (h0 : 0 ≤ xs[i] ∧ xs[i] < 256) : bt (strOfNums xs) (i : Int) = xs[i] := by
  have hs : i < (strOfNums xs).size := by rw [strOfNums_size]; exact h
  rw [bt_get hs]
  have e : (strOfNums xs)[i] = UInt8.ofNat (xs[i]).toNat := by
    rw [ByteArray.getElem_eq_getElem_data]
    simp [strOfNums]
  rw [e, UInt8.toNat_ofNat']
  omega
theorem bt_numB0 (v : Nat) : bt (numB v) 0 = (nl 8 v : Int) := by
  have := bt_nums (numI v) 0 (by simp [numI]) (by have := nl_le 8 v; simp [numI]; omega)
  show bt (strOfNums (numI v)) 0 = _
  simpa [numI] using this
theorem bt_numB (v j : Nat) (h : j < nl 8 v) : (bt (numB v) ((j + 1 : Nat) : Int)).toNat = v / 256 ^ (nl 8 v - 1 - j) % 256 := by
  have hl : j < (dg (nl 8 v) v).length := by rw [dg_length]; exact h
  have hg := dg_get (nl 8 v) v j hl
  have e : (numI v)[j + 1]'(by simp [numI, dg_length]; omega) = (dg (nl 8 v) v)[j] := by simp [numI]
  have := bt_nums (numI v) (j + 1) (by simp [numI, dg_length]; omega) (by rw [e, hg]; omega)
  rw [e, hg] at this
  show (bt (strOfNums (numI v)) ((j + 1 : Nat) : Int)).toNat = _
  rw [this]
  omega
theorem nl_lt : ∀ (f v : Nat), v < 256 ^ f → v < 256 ^ nl f v
  | 0, v, h => by simpa [nl] using h
  | f + 1, v, h => by
    by_cases hv : v = 0
    · subst hv; rw [nl_zero]; decide
    · rw [nl_succ f hv, Nat.pow_succ]
      have ih := nl_lt f (v / 256) (by rw [Nat.div_lt_iff_lt_mul (by decide)]; rwa [Nat.pow_succ] at h)
      rw [Nat.div_lt_iff_lt_mul (by decide)] at ih
      exact ih
theorem nl_ge : ∀ (f v : Nat), v ≠ 0 → v < 256 ^ f → 256 ^ (nl f v - 1) ≤ v
  | 0, v, h0, h => by simp at h; omega
  | f + 1, v, h0, h => by
    rw [nl_succ f h0, Nat.add_sub_cancel]
    by_cases hv : v / 256 = 0
    · rw [hv, nl_zero, Nat.pow_zero]; omega
    · have ih := nl_ge f (v / 256) hv (by rw [Nat.div_lt_iff_lt_mul (by decide)]; rwa [Nat.pow_succ] at h)
      have hp : nl f (v / 256) ≠ 0 := by cases f with
        | zero => simp at h; omega
        | succ f => rw [nl_succ f hv]; omega
      obtain ⟨m, hm⟩ : ∃ m, nl f (v / 256) = m + 1 := ⟨nl f (v / 256) - 1, by omega⟩
      rw [hm, Nat.add_sub_cancel] at ih
      rw [hm, Nat.pow_succ]
      omega
theorem nl_is : ∀ (f n v : Nat), n ≤ f → v < 256 ^ n → (0 < n → 256 ^ (n - 1) ≤ v) → nl f v = n
  | f, 0, v, _, h, _ => by have : v = 0 := by simp at h; exact h
                           subst this; exact nl_zero f
  | 0, n + 1, v, hf, _, _ => by omega
  | f + 1, n + 1, v, hf, h, hg => by
    have hg := hg (by omega)
    rw [Nat.add_sub_cancel] at hg
    have hv : v ≠ 0 := by have := Nat.pow_pos (n := n) (show 0 < 256 by decide); omega
    rw [nl_succ f hv]
    congr 1
    refine nl_is f n (v / 256) (by omega) (by rw [Nat.div_lt_iff_lt_mul (by decide)]; rwa [Nat.pow_succ] at h) (fun hn => ?_)
    obtain ⟨m, rfl⟩ : ∃ m, n = m + 1 := ⟨n - 1, by omega⟩
    rw [Nat.add_sub_cancel, Nat.le_div_iff_mul_le (by decide), ← Nat.pow_succ]
    exact hg
theorem p256 : (256 : Nat) ^ 8 = 18446744073709551616 := by decide
theorem valN_num (v : Nat) (hv : v < 18446744073709551616) (r : ByteArray) : ∀ k, k ≤ nl 8 v → valN (numB v ++ r) k = v / 256 ^ (nl 8 v - k)
  | 0, _ => by rw [valN, Nat.sub_zero, Nat.div_eq_of_lt (nl_lt 8 v (by rw [p256]; exact hv))]
  | k + 1, h => by
    rw [valN, valN_num v hv r k (by omega), bt_app_l (by rw [numB_size]; omega), bt_numB v k (by omega)]
    obtain ⟨d, hd⟩ : ∃ d, nl 8 v - (k + 1) = d := ⟨_, rfl⟩
    rw [show nl 8 v - 1 - k = d by omega, show nl 8 v - k = d + 1 by omega, hd, Nat.pow_succ, ← Nat.div_div_eq_div_mul]
    omega

/-- What TakeNum takes. -/
def tkN (s : ByteArray) : Nat × ByteArray × Int :=
  if s.size = 0 then (0, ⟨#[]⟩, 2) else if 8 < (bt s 0).toNat then (0, ⟨#[]⟩, 3) else if s.size ≤ (bt s 0).toNat then (0, ⟨#[]⟩, 2)
  else if 0 < (bt s 0).toNat ∧ bt s 1 = 0 then (0, ⟨#[]⟩, 3) else (valN s (bt s 0).toNat, s.extract ((bt s 0).toNat + 1) s.size, 0)
theorem tkN_num (v : Nat) (hv : v < 18446744073709551616) (r : ByteArray) : tkN (numB v ++ r) = (v, r, 0) := by
  have hn := nl_le 8 v
  have hs := numB_size v
  have h0 : bt (numB v ++ r) 0 = (nl 8 v : Int) := by
    have := bt_app_l (a := numB v) (b := r) (i := 0) (by omega)
    rw [show ((0 : Nat) : Int) = 0 from rfl] at this
    rw [this, bt_numB0]
  unfold tkN
  rw [h0, Int.toNat_natCast, if_neg (by rw [ByteArray.size_append]; omega), if_neg (by omega), if_neg (by rw [ByteArray.size_append]; omega), if_neg ?_, valN_num v hv r _ (Nat.le_refl _), Nat.sub_self, Nat.pow_zero, Nat.div_one]
  · congr 2
    exact ByteArray.extract_append_eq_right (by omega) (by rw [ByteArray.size_append])
  · rintro ⟨h1, h2⟩
    have e := bt_app_l (a := numB v) (b := r) (i := 1) (by omega)
    have hb := bt_numB v 0 h1
    rw [show ((0 + 1 : Nat) : Int) = ((1 : Nat) : Int) from rfl, ← e, show ((1 : Nat) : Int) = 1 from rfl, h2, Nat.sub_zero] at hb
    have hv0 : v ≠ 0 := by rintro rfl; rw [nl_zero] at h1; omega
    have hge := nl_ge 8 v hv0 (by rw [p256]; exact hv)
    have hlt := nl_lt 8 v (by rw [p256]; exact hv)
    obtain ⟨m, hm⟩ : ∃ m, nl 8 v = m + 1 := ⟨nl 8 v - 1, by omega⟩
    rw [hm, Nat.add_sub_cancel] at hb hge
    rw [hm, Nat.pow_succ] at hlt
    have hp := Nat.pow_pos (n := m) (show 0 < 256 by decide)
    have h1' : 1 ≤ v / 256 ^ m := (Nat.le_div_iff_mul_le hp).2 (by omega)
    have h2' : v / 256 ^ m < 256 := (Nat.div_lt_iff_lt_mul hp).2 (by rw [Nat.mul_comm]; exact hlt)
    simp at hb
    omega
theorem tkN_ok {s : ByteArray} (h : (tkN s).2.2 = 0) : s = numB (tkN s).1 ++ (tkN s).2.1 ∧ (tkN s).1 < 18446744073709551616 := by
  unfold tkN at h ⊢
  by_cases c1 : s.size = 0
  · rw [if_pos c1] at h; simp at h
  · rw [if_neg c1] at h ⊢
    by_cases c2 : 8 < (bt s 0).toNat
    · rw [if_pos c2] at h; simp at h
    · rw [if_neg c2] at h ⊢
      by_cases c3 : s.size ≤ (bt s 0).toNat
      · rw [if_pos c3] at h; simp at h
      · rw [if_neg c3] at h ⊢
        by_cases c4 : 0 < (bt s 0).toNat ∧ bt s 1 = 0
        · rw [if_pos c4] at h; simp at h
        · rw [if_neg c4]
          refine ⟨?_, valN_64 s (by omega)⟩
          dsimp only
          obtain ⟨n, hn⟩ : ∃ n, (bt s 0).toNat = n := ⟨_, rfl⟩
          rw [hn] at c2 c3 c4 ⊢
          have hnl : nl 8 (valN s n) = n := by
            refine nl_is 8 n _ (by omega) (valN_lt s n) (fun h0 => ?_)
            obtain ⟨m, rfl⟩ : ∃ m, n = m + 1 := ⟨n - 1, by omega⟩
            rw [Nat.add_sub_cancel]
            have h1 := valN_div s (m + 1) m 1 (by omega)
            have h2 : valN s 1 = (bt s 1).toNat := by simp [valN]
            have hb := bt_range s 1
            have h3 : valN s 1 ≠ 0 := by rw [h2]; intro e; exact c4 ⟨h0, by omega⟩
            have hp := Nat.pow_pos (n := m) (show 0 < 256 by decide)
            have := (Nat.le_div_iff_mul_le (k := 256 ^ m) (x := 1) (y := valN s (m + 1)) hp).1 (by omega)
            omega
          have e : numB (valN s n) = s.extract 0 (n + 1) := by
            refine ba_ext ?_ (fun i hi => ?_)
            · rw [numB_size, hnl, ByteArray.size_extract]; omega
            · rw [numB_size, hnl] at hi
              rw [bt_ext (by omega) (by omega), Nat.zero_add]
              cases i with
              | zero => show bt _ 0 = bt _ 0; rw [bt_numB0, hnl, ← hn, bt_nn]
              | succ j =>
                have hb := bt_numB (valN s n) j (by rw [hnl]; omega)
                rw [hnl, valN_div s n (n - 1 - j) (j + 1) (by omega), valN] at hb
                have h1 := bt_lt s ((j + 1 : Nat) : Int)
                have h2 := bt_nn s ((j + 1 : Nat) : Int)
                have h3 := bt_nn (numB (valN s n)) ((j + 1 : Nat) : Int)
                omega
          rw [e]
          exact (cut_join (by omega)).symm

/-- What TakeText takes, of at most 65536 bytes. -/
def tkT (s : ByteArray) : ByteArray × ByteArray × Int :=
  if (tkN s).2.2 = 0 then (if 65536 < (tkN s).1 then (⟨#[]⟩, ⟨#[]⟩, 4) else if (tkN s).2.1.size < (tkN s).1 then (⟨#[]⟩, ⟨#[]⟩, 2) else ((tkN s).2.1.extract 0 (tkN s).1, (tkN s).2.1.extract (tkN s).1 (tkN s).2.1.size, 0)) else (⟨#[]⟩, ⟨#[]⟩, (tkN s).2.2)
theorem tkT_text (t r : ByteArray) (ht : t.size ≤ 65536) : tkT (textB t ++ r) = (t, r, 0) := by
  unfold tkT textB
  rw [ByteArray.append_assoc, tkN_num _ (by omega)]
  dsimp only
  rw [if_pos rfl, if_neg (by omega), if_neg (by rw [ByteArray.size_append]; omega)]
  congr 1
  · exact ByteArray.extract_append_eq_left rfl
  · congr 1
    exact ByteArray.extract_append_eq_right rfl (by rw [ByteArray.size_append])
theorem tkT_ok {s : ByteArray} (h : (tkT s).2.2 = 0) : s = textB (tkT s).1 ++ (tkT s).2.1 ∧ (tkT s).1.size ≤ 65536 := by
  unfold tkT at h ⊢
  by_cases c1 : (tkN s).2.2 = 0
  · rw [if_pos c1] at h ⊢
    by_cases c2 : 65536 < (tkN s).1
    · rw [if_pos c2] at h; simp at h
    · rw [if_neg c2] at h ⊢
      by_cases c3 : (tkN s).2.1.size < (tkN s).1
      · rw [if_pos c3] at h; simp at h
      · rw [if_neg c3]
        obtain ⟨e, _⟩ := tkN_ok c1
        have hs : ((tkN s).2.1.extract 0 (tkN s).1).size = (tkN s).1 := by rw [ByteArray.size_extract]; omega
        refine ⟨?_, by rw [hs]; omega⟩
        unfold textB
        rw [hs, ByteArray.append_assoc, cut_join (by omega)]
        exact e
  · rw [if_neg c1] at h; exact absurd h c1
theorem tkT_sizes (s : ByteArray) : (tkT s).1.size ≤ s.size ∧ (tkT s).2.1.size ≤ s.size := by
  by_cases h : (tkT s).2.2 = 0
  · obtain ⟨e, _⟩ := tkT_ok h
    have := congrArg ByteArray.size e
    unfold textB at this
    rw [ByteArray.size_append, ByteArray.size_append] at this
    omega
  · unfold tkT at h ⊢
    by_cases c1 : (tkN s).2.2 = 0
    · rw [if_pos c1] at h ⊢
      by_cases c2 : 65536 < (tkN s).1
      · rw [if_pos c2]; exact ⟨Nat.zero_le _, Nat.zero_le _⟩
      · rw [if_neg c2] at h ⊢
        by_cases c3 : (tkN s).2.1.size < (tkN s).1
        · rw [if_pos c3]; exact ⟨Nat.zero_le _, Nat.zero_le _⟩
        · rw [if_neg c3] at h; simp at h
    · rw [if_neg c1]; exact ⟨Nat.zero_le _, Nat.zero_le _⟩

/-! frames -/
def frm (t : ByteArray) : ByteArray := textB t ++ (sumB t).extract 0 4
theorem sum4 (t : ByteArray) : ((sumB t).extract 0 4).size = 4 := by rw [ByteArray.size_extract, sumB_size]; rfl
theorem frm_size (t : ByteArray) : (frm t).size = t.size + nl 8 t.size + 5 := by
  unfold frm textB
  rw [ByteArray.size_append, ByteArray.size_append, numB_size, sum4]
  omega
/-- the first record, and what stands behind its frame -/
def one (s : ByteArray) : Option (ByteArray × ByteArray) :=
  if (tkT s).2.2 = 0 ∧ 4 ≤ (tkT s).2.1.size ∧ (sumB (tkT s).1).extract 0 4 = (tkT s).2.1.extract 0 4 then some ((tkT s).1, (tkT s).2.1.extract 4 (tkT s).2.1.size) else none
theorem one_frm (t r : ByteArray) (ht : t.size ≤ 65536) : one (frm t ++ r) = some (t, r) := by
  unfold one frm
  have h4 := sum4 t
  rw [ByteArray.append_assoc, tkT_text t _ ht]
  dsimp only
  rw [if_pos ⟨rfl, by rw [ByteArray.size_append]; omega, (ByteArray.extract_append_eq_left h4.symm).symm⟩]
  rw [ByteArray.extract_append_eq_right (a := (sumB t).extract 0 4) (b := r) (by omega) (by rw [ByteArray.size_append])]
theorem one_ok {s t r : ByteArray} (h : one s = some (t, r)) : s = frm t ++ r ∧ t.size ≤ 65536 := by
  unfold one at h
  split at h
  · rename_i c
    obtain ⟨c1, c2, c3⟩ := c
    obtain ⟨rfl, rfl⟩ := Prod.mk.inj (Option.some.inj h)
    obtain ⟨e, hs⟩ := tkT_ok c1
    refine ⟨?_, hs⟩
    unfold frm
    rw [c3, ByteArray.append_assoc, cut_join (by omega)]
    exact e
  · cases h
/-- the records of bytes, and what is left -/
def rds : Nat → ByteArray → List ByteArray × ByteArray
  | 0, s => ([], s)
  | m + 1, s => match one s with
    | none => ([], s)
    | some (t, r) => (t :: (rds m r).1, (rds m r).2)
def frs : List ByteArray → ByteArray
  | [] => ByteArray.empty
  | t :: l => frm t ++ frs l
theorem frs_app (l m : List ByteArray) : frs (l ++ m) = frs l ++ frs m := by
  induction l with
  | nil => rw [List.nil_append, frs, ByteArray.empty_append]
  | cons t l ih => rw [List.cons_append, frs, frs, ih, ByteArray.append_assoc]
def Recs (l : List ByteArray) : Prop := ∀ t ∈ l, t.size ≤ 65536
theorem rds_frs (r : ByteArray) (hr : one r = none) : ∀ (l : List ByteArray) (m : Nat), Recs l → (frs l ++ r).size ≤ m → rds m (frs l ++ r) = (l, r)
  | [], m, _, _ => by
    rw [frs, ByteArray.empty_append]
    cases m with
    | zero => rfl
    | succ m => rw [rds, hr]
  | t :: l, 0, _, h => by
    rw [frs, ByteArray.size_append, ByteArray.size_append, frm_size] at h
    omega
  | t :: l, m + 1, hl, h => by
    have hf := frm_size t
    rw [frs, ByteArray.append_assoc] at h ⊢
    rw [ByteArray.size_append] at h
    rw [rds, one_frm _ _ (hl t (by simp))]
    dsimp only
    rw [rds_frs r hr l m (fun x hx => hl x (by simp [hx])) (by omega)]
theorem rds_ok : ∀ (m : Nat) (s : ByteArray), s.size ≤ m → s = frs (rds m s).1 ++ (rds m s).2 ∧ Recs (rds m s).1 ∧ one (rds m s).2 = none
  | 0, s, h => by
    rw [rds]
    refine ⟨by rw [frs, ByteArray.empty_append], fun t ht => by simp at ht, ?_⟩
    cases h1 : one s with
    | none => rfl
    | some p =>
      have := congrArg ByteArray.size (one_ok (t := p.1) (r := p.2) h1).1
      rw [ByteArray.size_append, frm_size] at this
      omega
  | m + 1, s, h => by
    rw [rds]
    cases h1 : one s with
    | none => exact ⟨by dsimp only; rw [frs, ByteArray.empty_append], fun t ht => by simp at ht, h1⟩
    | some p =>
      obtain ⟨t, r⟩ := p
      obtain ⟨e, ht⟩ := one_ok h1
      have hz := congrArg ByteArray.size e
      rw [ByteArray.size_append, frm_size] at hz
      obtain ⟨i1, i2, i3⟩ := rds_ok m r (by omega)
      dsimp only
      refine ⟨?_, ?_, i3⟩
      · rw [frs, ByteArray.append_assoc, ← i1]; exact e
      · intro x hx
        rcases List.mem_cons.1 hx with rfl | hx
        · exact ht
        · exact i2 x hx
def recsB (s : ByteArray) : List ByteArray := (rds s.size s).1
def restB (s : ByteArray) : ByteArray := (rds s.size s).2
def endB (s : ByteArray) : Nat := s.size - (restB s).size
theorem recs_ok (s : ByteArray) : s = frs (recsB s) ++ restB s ∧ Recs (recsB s) ∧ one (restB s) = none := rds_ok _ s (Nat.le_refl _)
theorem recs_is {s r : ByteArray} {l : List ByteArray} (e : s = frs l ++ r) (hl : Recs l) (hr : one r = none) : recsB s = l ∧ restB s = r := by
  subst e
  unfold recsB restB
  rw [rds_frs r hr l _ hl (Nat.le_refl _)]
  exact ⟨rfl, rfl⟩
theorem one_empty : one ByteArray.empty = none := by
  cases h1 : one ByteArray.empty with
  | none => rfl
  | some p =>
    have := congrArg ByteArray.size (one_ok (t := p.1) (r := p.2) h1).1
    rw [ByteArray.size_append, frm_size, ByteArray.size_empty] at this
    omega
theorem recs_frs (l : List ByteArray) (hl : Recs l) : recsB (frs l) = l ∧ restB (frs l) = ByteArray.empty :=
  recs_is (by rw [ByteArray.append_empty]) hl one_empty
theorem endB_is (s : ByteArray) : endB s = (frs (recsB s)).size := by
  have := congrArg ByteArray.size (recs_ok s).1
  rw [ByteArray.size_append] at this
  unfold endB
  omega
theorem endB_le (s : ByteArray) : endB s ≤ s.size := by unfold endB; omega
theorem endB_cut (s : ByteArray) : s.extract 0 (endB s) = frs (recsB s) := by
  have e := (recs_ok s).1
  rw [endB_is]
  conv => lhs; arg 1; rw [e]
  exact ByteArray.extract_append_eq_left rfl
/-- The records with the places where their frames end, in bytes of which n is the length in all. -/
def frl (n : Nat) : Nat → ByteArray → List (Nat × ByteArray)
  | 0, _ => []
  | m + 1, s => match one s with
    | none => []
    | some (t, r) => (n - r.size, t) :: frl n m r
theorem frl_recs (n : Nat) : ∀ (m : Nat) (s : ByteArray), (frl n m s).map (·.2) = (rds m s).1
  | 0, _ => rfl
  | m + 1, s => by
    rw [frl, rds]
    cases one s with
    | none => rfl
    | some p => dsimp only; rw [List.map_cons, frl_recs n m p.2]
theorem frl_last (n : Nat) : ∀ (m : Nat) (s : ByteArray) (d : Nat), ((frl n m s).getLast?.map (·.1)).getD d = if (rds m s).1 = [] then d else n - (rds m s).2.size
  | 0, _, d => rfl
  | m + 1, s, d => by
    rw [frl, rds]
    cases one s with
    | none => rfl
    | some p =>
      obtain ⟨t, r⟩ := p
      dsimp only
      rw [if_neg (by simp), List.getLast?_cons]
      have ih := frl_last n m r (n - r.size)
      have key : ((some ((frl n m r).getLast?.getD (n - r.size, t))).map (·.1)).getD d = ((frl n m r).getLast?.map (·.1)).getD (n - r.size) := by
        cases (frl n m r).getLast? <;> rfl
      rw [key, ih]
      by_cases h : (rds m r).1 = []
      · rw [if_pos h]
        have : (rds m r).2 = r := by
          cases m with
          | zero => rfl
          | succ m =>
            rw [rds] at h ⊢
            cases h1 : one r with
            | none => rfl
            | some q => rw [h1] at h; simp at h
        rw [this]
      · rw [if_neg h]
end Go.Proofs.Ytiknkkkfkifahaa.Sa
