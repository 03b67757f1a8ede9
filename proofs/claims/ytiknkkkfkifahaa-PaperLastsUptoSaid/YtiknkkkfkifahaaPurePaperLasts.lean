/- Proved: the pure half of the law PaperLasts of chapter 17 (what the walked program computes is 'true'). Conditions: those of its row, no other. -/
import Derived.Test.YtiknkkkfkifahaaArgPaperLasts
import Derived.Test.YtiknkkkfkifahaaEk
import Derived.Test.YtiknkkkfkifahaaTk
import Derived.IntWalk
import Derived.KernelRfl
namespace Go.Proofs.Ytiknkkkfkifahaa.Pure
open Go.IntWalk Go.RowKit Go.Proofs.Ytiknkkkfkifahaa.PPaperLasts Go.Proofs.YtiknkkkfkifahaaW.PrintWords Go.Proofs.YtiknkkkfkifahaaW.PrintLast Go.Proofs.Ytiknkkkfkifahaa.Ek
open Go.Proofs.Ytiknkkkfkifahaa.Sa (valN valN_64 tkN tkT tkT_sizes bt_nn bt_lt ba_nil ba_toList one frm frm_size rds frs frl recsB restB endB Recs sum4)
open Go.Proofs.Ytiknkkkfkifahaa.Sm (sumB sumB_size)
set_option linter.unusedSimpArgs false
set_option linter.unusedVariables false

theorem succ_ok {i n : Nat} (h : i < n) (hn : n ≤ 1000000000000000) : wrap64 ((i : Int) + 1) = ((i + 1 : Nat) : Int) := by rw [wrap64_in _ (by omega)]; omega
theorem wfI {n : Int} (h : (Lit.int .i64 n).wf = true) : -9223372036854775808 ≤ n ∧ n ≤ 9223372036854775807 := by
  simp [Lit.wf, IntKind.min, IntKind.max, IntKind.signed, IntKind.bits] at h
  omega
theorem wb (s : ByteArray) (i : Int) : wrap64 (bt s i) = bt s i := by have := bt_range s i; exact wrap64_in _ (by omega)
theorem rds' {l : List ByteArray} {i : Nat} (h : i < l.length) : rdOf ByteArray.empty l (i : Int) = l[i] := by
  unfold rdOf
  rw [Int.toNat_natCast, List.getD_eq_getElem?_getD, List.getElem?_eq_getElem h]
  rfl
theorem or256 (a b : Nat) (ha : a < 72057594037927936) (hb : b < 256) : bits .or .u64 (IntKind.u64.wrap ((a : Int) * 256)) (IntKind.u64.wrap (b : Int)) = ((a * 256 + b : Nat) : Int) := by
  rw [IntKind.wrap_u64, IntKind.wrap_u64, Int.emod_eq_of_lt (by omega) (by omega), Int.emod_eq_of_lt (by omega) (by omega)]
  rw [bits_join .u64 64 (by decide) wraps_u64 8 ((a : Int) * 256) b (by omega) (by rw [show (2 : Int) ^ 8 = 256 by decide]; omega) (by rw [show (2 : Int) ^ 64 = 18446744073709551616 by decide]; omega) (by omega) (by rw [show (2 : Int) ^ 8 = 256 by decide]; omega) (by rw [show (2 : Int) ^ 64 = 18446744073709551616 by decide]; omega)]
  omega
theorem valN_56 (s : ByteArray) {k : Nat} (h : k < 8) : valN s k < 72057594037927936 := by
  have h1 : (256 : Nat) ^ k ≤ 256 ^ 7 := Nat.pow_le_pow_right (by decide) (by omega)
  exact Nat.lt_of_lt_of_le (Sa.valN_lt s k) (Nat.le_trans h1 (by decide))
theorem valN_next (s : ByteArray) (k : Nat) : valN s (k + 1) = valN s k * 256 + (bt s ((k + 1 : Nat) : Int)).toNat := rfl
theorem num_l (s : ByteArray) (n : Nat) (hn : n ≤ 8) (hs : n < s.size) (hS : s.size ≤ 1000000000000000) : ∀ (m i k : Nat), i + m = n → digits_TakeNum.l0 (m + 1 + k) s (n : Int) ((valN s i : Nat) : Int) ((i + 1 : Nat) : Int) = some (((valN s n : Nat) : Int), s.extract (n + 1) s.size, 0)
  | 0, i, k, h => by
    obtain rfl : i = n := by omega
    rw [show 0 + 1 + k = k + 1 by omega, digits_TakeNum.l0, if_neg (by omega), succ_ok (n := s.size) (by omega) hS, if_pos (by omega), if_pos (by omega), Int.toNat_natCast]
  | m + 1, i, k, h => by
    have ih := num_l s n hn hs hS m (i + 1) k (by omega)
    have e := or256 (valN s i) (bt s ((i + 1 : Nat) : Int)).toNat (valN_56 s (by omega)) (bt_lt _ _)
    rw [bt_nn, ← valN_next] at e
    rw [show m + 1 + 1 + k = m + 1 + k + 1 by omega, digits_TakeNum.l0, if_pos (by omega), if_pos (by omega), if_pos (by omega), e, succ_ok (i := i + 1) (n := s.size) (by omega) hS]
    exact ih
theorem num_is (s : ByteArray) (hS : s.size ≤ 1000000000000000) (k : Nat) (hk : 12 ≤ k) : digits_TakeNum.f k s = some (((tkN s).1 : Int), (tkN s).2.1, (tkN s).2.2) := by
  have hb := bt_range s 0
  have hn := bt_nn s 0
  unfold digits_TakeNum.f tkN
  by_cases c1 : s.size = 0
  · rw [if_pos (ba_nil.2 c1), if_pos c1]; rfl
  · rw [if_neg (fun h => c1 (ba_nil.1 h)), if_neg c1, if_pos (by omega), wb]
    by_cases c2 : 8 < (bt s 0).toNat
    · rw [if_pos (by omega), if_pos c2]; rfl
    · rw [if_neg (by omega), if_neg c2]
      by_cases c3 : s.size ≤ (bt s 0).toNat
      · rw [if_pos (by omega), if_pos c3]; rfl
      · rw [if_neg (by omega), if_neg c3]
        have key : digits_TakeNum.j0 k s (bt s 0) = some (((valN s (bt s 0).toNat : Nat) : Int), s.extract ((bt s 0).toNat + 1) s.size, 0) := by
          obtain ⟨k', rfl⟩ : ∃ k', k = ((bt s 0).toNat + 1 + k') + 1 := ⟨k - (bt s 0).toNat - 2, by omega⟩
          have := num_l s (bt s 0).toNat (by omega) (by omega) hS (bt s 0).toNat 0 k' (by omega)
          rw [hn] at this
          rw [digits_TakeNum.j0]
          exact this
        by_cases c4 : 0 < (bt s 0).toNat
        · rw [if_pos (by omega), if_pos (by omega)]
          by_cases c5 : bt s 1 = 0
          · rw [if_pos c5, if_pos ⟨c4, c5⟩]; rfl
          · rw [if_neg c5, if_neg (fun h => c5 h.2)]; exact key
        · rw [if_neg (by omega), if_neg (fun h => c4 h.1)]; exact key
theorem u64n (n : Nat) (h : n < 18446744073709551616) : IntKind.u64.wrap (n : Int) = n := by rw [IntKind.wrap_u64]; omega
theorem tkN_sizes (s : ByteArray) : (tkN s).2.1.size ≤ s.size := by
  unfold tkN
  repeat' split
  all_goals first | exact Nat.zero_le _ | (dsimp only; rw [ByteArray.size_extract]; omega)
theorem text_is (s : ByteArray) (hS : s.size ≤ 1000000000000000) (k : Nat) (hk : 12 ≤ k) : digits_TakeText.f k s 65536 = some (tkT s) := by
  have hz := tkN_sizes s
  unfold digits_TakeText.f tkT
  rw [num_is s hS k hk, Option.bind_some]
  dsimp only
  by_cases c1 : (tkN s).2.2 = 0
  · rw [if_pos c1, if_pos c1, if_neg (by omega)]
    obtain ⟨k', rfl⟩ : ∃ k', k = k' + 1 := ⟨k - 1, by omega⟩
    have e1 : IntKind.u64.wrap 65536 = 65536 := by rw [IntKind.wrap_u64]; rfl
    rw [digits_TakeText.j0, e1, u64n _ (by omega)]
    by_cases c2 : 65536 < (tkN s).1
    · rw [if_pos (by simp; omega), if_pos c2]
    · rw [if_neg (by simp; omega), if_neg c2]
      by_cases c3 : (tkN s).2.1.size < (tkN s).1
      · rw [if_pos (by omega), if_pos c3]
      · rw [if_neg (by omega), if_neg c3, if_pos (by omega), if_pos (by omega), Int.toNat_natCast]
  · rw [if_neg c1, if_neg c1]
theorem toL4 (t u : ByteArray) : ((sumB t).extract 0 4).toList = (u.extract 0 4).toList ↔ (sumB t).extract 0 4 = u.extract 0 4 := ba_toList
theorem frsO_is (s : ByteArray) (tk : ByteArray → Option (ByteArray × ByteArray × Int)) (hS : s.size ≤ 140737488351232) (h : ∀ x : ByteArray, x.size ≤ s.size → tk x = some (tkT x)) : ∀ (m i : Nat), i ≤ s.size → s.size - i < m → Sa.frsO sumB tk s m i = some (frl s.size m (s.extract i s.size))
  | 0, i, hi, hm => by omega
  | m + 1, i, hi, hm => by
    have hsz : (s.extract i s.size).size = s.size - i := by rw [ByteArray.size_extract]; omega
    rw [Sa.frsO, frl]
    by_cases c1 : i < s.size
    · rw [if_pos c1, h _ (by omega), Option.bind_some]
      obtain ⟨z1, z2⟩ := tkT_sizes (s.extract i s.size)
      cases h1 : one (s.extract i s.size) with
      | none =>
        dsimp only
        unfold one at h1
        by_cases c2 : (tkT (s.extract i s.size)).2.2 = 0
        · rw [if_pos c2]
          by_cases c3 : (tkT (s.extract i s.size)).2.1.size < 4
          · rw [if_pos c3]
          · have ht := (Sa.tkT_ok c2).1
            have hz := congrArg ByteArray.size ht
            unfold Sa.textB at hz
            rw [ByteArray.size_append, ByteArray.size_append, Sa.numB_size] at hz
            rw [if_neg c3, if_pos ⟨by omega, by omega, by omega⟩, if_neg (fun e => ?_)]
            rw [if_pos ⟨c2, by omega, (toL4 _ _).1 e⟩] at h1
            cases h1
        · rw [if_neg c2]
      | some p =>
        obtain ⟨t, r⟩ := p
        dsimp only
        have ho := Sa.one_ok h1
        have hz := congrArg ByteArray.size ho.1
        rw [ByteArray.size_append, frm_size, hsz] at hz
        unfold one at h1
        split at h1
        · rename_i c
          obtain ⟨c2, c3, c4⟩ := c
          obtain ⟨e1, e2⟩ := Prod.mk.inj (Option.some.inj h1)
          have hr : r.size = (tkT (s.extract i s.size)).2.1.size - 4 := by rw [← e2, ByteArray.size_extract]; omega
          rw [if_pos c2, if_neg (by omega), if_pos ⟨by omega, by omega, by omega⟩, if_pos ((toL4 _ _).2 c4), e1]
          have ep : s.size - (tkT (s.extract i s.size)).2.1.size + 4 = s.size - r.size := by omega
          have er : s.extract (s.size - r.size) s.size = r := Sa.tail_of hi ho.1
          rw [ep, frsO_is s tk hS h m (s.size - r.size) (by omega) (by omega), er]
          rfl
        · cases h1
    · have e : s.extract i s.size = ByteArray.empty := ByteArray.extract_eq_empty_iff.2 (by omega)
      rw [if_neg c1, e, Sa.one_empty]
theorem frl_len (n : Nat) : ∀ (m : Nat) (s : ByteArray), (frl n m s).length ≤ m
  | 0, s => Nat.zero_le _
  | m + 1, s => by
    rw [frl]
    cases one s with
    | none => exact Nat.zero_le _
    | some p => have := frl_len n m p.2; simp only [List.length_cons]; omega
theorem frl_fix (n : Nat) : ∀ (m : Nat) (s : ByteArray), s.size ≤ m → frl n m s = frl n s.size s
  | m, s, h => by
    have key : ∀ (m1 m2 : Nat) (s : ByteArray), s.size ≤ m1 → s.size ≤ m2 → frl n m1 s = frl n m2 s := by
      intro m1
      induction m1 with
      | zero =>
        intro m2 s h1 h2
        have e : s = ByteArray.empty := ByteArray.size_eq_zero_iff.1 (by omega)
        cases m2 with
        | zero => rfl
        | succ m2 => rw [frl, frl, e, Sa.one_empty]
      | succ m1 ih =>
        intro m2 s h1 h2
        cases m2 with
        | zero =>
          have e : s = ByteArray.empty := ByteArray.size_eq_zero_iff.1 (by omega)
          rw [frl, frl, e, Sa.one_empty]
        | succ m2 =>
          rw [frl, frl]
          cases h3 : one s with
          | none => rfl
          | some p =>
            obtain ⟨t, r⟩ := p
            have hz := congrArg ByteArray.size (Sa.one_ok h3).1
            rw [ByteArray.size_append, frm_size] at hz
            dsimp only
            rw [ih m2 r (by omega) (by omega)]
    exact key m s.size s h (Nat.le_refl _)
theorem read_is (s : ByteArray) (hS : s.size ≤ 1000000000) (k : Nat) (hk : s.size + 20 ≤ k) : paper_Read.f k s = some (recsB s, (endB s : Int)) := by
  unfold paper_Read.f
  rw [if_pos (by omega), frsO_is s _ (by omega) (fun x hx => text_is x (by omega) k (by omega)) k 0 (Nat.zero_le _) (by omega), ByteArray.extract_zero_size, frl_fix s.size k s (by omega), Option.bind_some]
  have hl := frl_len s.size s.size s
  rw [if_pos (by omega), Sa.frl_recs]
  have h1 := Sa.frl_last s.size s.size s 0
  unfold Sa.lastE
  rw [h1]
  unfold recsB endB restB
  by_cases h : (rds s.size s).1 = []
  · rw [if_pos h]
    have e := (Sa.recs_ok s).1
    unfold recsB restB at e
    rw [h] at e
    have hz := congrArg ByteArray.size e
    rw [frs, ByteArray.empty_append] at hz
    rw [h]
    congr 3
    omega
  · rw [if_neg h]
theorem read_ev (s : ByteArray) (hS : s.size ≤ 1000000000) : Evk (fun k => paper_Read.f k s) (recsB s, (endB s : Int)) := ⟨s.size + 20, fun k hk => read_is s hS k hk⟩
theorem same_l (l : List ByteArray) (hl : l.length ≤ 1000000000) : ∀ (m i : Nat), i + m = l.length → Evk (fun k => selvedgeref01_Same.l0 k l l (i : Int)) true
  | 0, i, hi => (Evk.ret _).step fun k => by rw [selvedgeref01_Same.l0, if_neg (by omega)]
  | m + 1, i, hi => by
    have hlt : i < l.length := by omega
    refine (same_l l hl m (i + 1) (by omega)).step fun k => ?_
    rw [selvedgeref01_Same.l0, if_pos (by omega), if_pos (by omega), if_pos (by omega), if_pos rfl, succ_ok hlt (by omega)]
theorem same_ev (l : List ByteArray) (hl : l.length ≤ 1000000000) : Evk (fun k => selvedgeref01_Same.f k l l) true :=
  (same_l l hl l.length 0 (by omega)).of_eq fun k => by unfold selvedgeref01_Same.f; rw [if_pos rfl]; rfl
theorem recs_len (s : ByteArray) : (recsB s).length ≤ s.size := by
  have e := (Sa.recs_ok s).1
  have key : ∀ l : List ByteArray, l.length ≤ (frs l).size := by
    intro l
    induction l with
    | nil => exact Nat.zero_le _
    | cons t l ih => rw [frs, ByteArray.size_append, frm_size, List.length_cons]; omega
  have h1 := key (recsB s)
  have := congrArg ByteArray.size e
  rw [ByteArray.size_append] at this
  omega
def fraB (t : ByteArray) : ByteArray × Int := if 65536 < t.size then (⟨#[]⟩, 4) else (frm t, 0)
theorem frame_is (t : ByteArray) (hS : t.size ≤ 1000000000) : paper_Frame.f t = some (fraB t) := by
  unfold paper_Frame.f fraB digits_Text.f sha_Sum.f
  by_cases c : 65536 < t.size
  · rw [if_pos (by omega), if_pos c]
  · have h4 := sum4 t
    have hs := sumB_size t
    have ht := Sa.textB_le t
    rw [if_neg (by omega), if_neg c, if_pos (by omega), Option.bind_some, if_pos (by omega), Option.bind_some, if_pos (by decide), if_pos (by omega), if_pos (by rw [h4]; omega)]
    rfl
theorem fraB_size (t : ByteArray) : (fraB t).1.size ≤ 70000 := by
  unfold fraB
  split
  · exact Nat.zero_le _
  · rw [frm_size]; have := Sa.nl_le 8 t.size; omega
theorem crash_is (s w : ByteArray) (fu : Int) (off : Bool) (keep : Int) (hS : s.size + w.size ≤ 1000000000) (k : Nat) (hk : s.size + w.size + 20 ≤ k) :
    paper_Crash.f k s w fu off keep = some (frs (recsB (s ++ w.extract 0 (min keep.toNat w.size))), (⟨#[]⟩ : ByteArray), -1, false) := by
  have e1 : mn (mx keep 0) (w.size : Int) = ((min keep.toNat w.size : Nat) : Int) := by unfold mn mx; (repeat' split) <;> omega
  have hz : (s ++ w.extract 0 (min keep.toNat w.size)).size ≤ s.size + w.size := by rw [ByteArray.size_append, ByteArray.size_extract]; omega
  unfold paper_Crash.f
  rw [e1, if_pos (by omega), if_pos (by omega), Int.toNat_natCast, if_pos (by rw [ByteArray.size_extract]; omega), read_is _ (by omega) k (by omega), Option.bind_some]
  have he := Sa.endB_le (s ++ w.extract 0 (min keep.toNat w.size))
  dsimp only
  rw [if_pos (by omega), if_pos (by omega), Int.toNat_natCast, Sa.endB_cut]
theorem records_is (s w : ByteArray) (fu : Int) (off : Bool) (hS : s.size + w.size ≤ 1000000000) (k : Nat) (hk : s.size + w.size + 20 ≤ k) : paper_Records.f k s w fu off = some (recsB (s ++ w)) := by
  have hz : (s ++ w).size = s.size + w.size := ByteArray.size_append
  unfold paper_Records.f
  rw [if_pos (by omega), read_is _ (by omega) k (by omega), Option.bind_some]
theorem append_is (s w : ByteArray) (fu : Int) (off : Bool) (t : ByteArray) (h1 : s.size + w.size ≤ 1000000000) (h2 : t.size ≤ 1000000000) (h3 : fu ≤ 9223372036854775807) : paper_Append.f s w fu off t = some (Sa.appB s w fu off (fraB t).1 (fraB t).2) := by
  have := fraB_size t
  unfold paper_Append.f
  rw [frame_is t h2, Option.bind_some, if_pos ⟨by omega, by omega, h3⟩]
abbrev abB : ByteArray := ⟨#[97, 98]⟩
theorem nlab : Sa.nl 8 2 = 1 := by decide
theorem recs_one (t : ByteArray) (h : t.size ≤ 65536) : recsB (frm t) = [t] := by
  have := (Sa.recs_frs [t] (fun x hx => by rw [List.mem_singleton.1 hx]; exact h)).1
  rw [frs, frs, ByteArray.append_empty] at this
  exact this
theorem recs_short (t : ByteArray) (h : t.size ≤ 65536) (n : Nat) (hn : n < (frm t).size) : recsB ((frm t).extract 0 n) = [] := by
  have key : one ((frm t).extract 0 n) = none := by
    cases h1 : one ((frm t).extract 0 n) with
    | none => rfl
    | some p =>
      obtain ⟨u, r⟩ := p
      obtain ⟨e, hu⟩ := Sa.one_ok h1
      have e2 : frm t = frm u ++ (r ++ (frm t).extract n (frm t).size) := by
        rw [← ByteArray.append_assoc, ← e, Sa.cut_join (by omega)]
      have h2 := Sa.one_frm u (r ++ (frm t).extract n (frm t).size) hu
      have h3 := Sa.one_frm t ByteArray.empty h
      rw [ByteArray.append_empty, e2, h2] at h3
      have h4 := congrArg ByteArray.size (Prod.mk.inj (Option.some.inj h3)).2
      rw [ByteArray.size_append, ByteArray.size_extract, ByteArray.size_empty] at h4
      omega
  exact (Sa.recs_is (l := []) (by rw [frs, ByteArray.empty_append]) (fun x hx => by simp at hx) key).1
theorem shown_is (k : Nat) (hk : 1000 ≤ k) : selvedgelaw17_shown.f k = some true := by
  have hz : (frm abB).size = 8 := by rw [frm_size]; show 2 + Sa.nl 8 2 + 5 = 8; rw [nlab]
  have hf : fraB abB = (frm abB, 0) := rfl
  have ha : Sa.appB (⟨#[]⟩ : ByteArray) (⟨#[]⟩ : ByteArray) (-1) false (frm abB) 0 = ((⟨#[]⟩ : ByteArray), frm abB, -1, false, 0) := by
    unfold Sa.appB
    rw [if_neg (by simp), if_neg (by simp), if_neg (by rw [hz]; show ¬ 1048576 < 0 + 0 + 8; decide), if_neg (by omega), if_neg (by decide)]
    congr 2
  have c7 := crash_is (⟨#[]⟩ : ByteArray) (frm abB) (-1) false 7 (by rw [hz]; decide) k (by rw [hz]; show 0 + 8 + 20 ≤ k; omega)
  have c8 := crash_is (⟨#[]⟩ : ByteArray) (frm abB) (-1) false 8 (by rw [hz]; decide) k (by rw [hz]; show 0 + 8 + 20 ≤ k; omega)
  have e7 : (⟨#[]⟩ : ByteArray) ++ (frm abB).extract 0 (min (7 : Int).toNat (frm abB).size) = (frm abB).extract 0 7 := by rw [hz]; exact ByteArray.empty_append
  have e8 : (⟨#[]⟩ : ByteArray) ++ (frm abB).extract 0 (min (8 : Int).toNat (frm abB).size) = frm abB := by
    rw [hz]
    show ByteArray.empty ++ (frm abB).extract 0 8 = _
    rw [ByteArray.empty_append, ← hz, ByteArray.extract_zero_size]
  rw [e7, recs_short abB (by decide) 7 (by omega)] at c7
  rw [e8, recs_one abB (by decide)] at c8
  have r7 := records_is (frs []) (⟨#[]⟩ : ByteArray) (-1) false (by decide) k (by show 0 + 0 + 20 ≤ k; omega)
  have r8 := records_is (frs [abB]) (⟨#[]⟩ : ByteArray) (-1) false (by rw [frs, frs, ByteArray.append_empty, hz]; decide) k (by rw [frs, frs, ByteArray.append_empty, hz]; show 8 + 0 + 20 ≤ k; omega)
  have q7 : recsB (frs [] ++ (⟨#[]⟩ : ByteArray)) = [] := by
    show recsB (frs [] ++ ByteArray.empty) = []
    rw [ByteArray.append_empty]; exact (Sa.recs_frs [] (fun x hx => by simp at hx)).1
  have q8 : recsB (frs [abB] ++ (⟨#[]⟩ : ByteArray)) = [abB] := by
    show recsB (frs [abB] ++ ByteArray.empty) = _
    rw [ByteArray.append_empty]; exact (Sa.recs_frs [abB] (fun x hx => by rw [List.mem_singleton.1 hx]; decide)).1
  rw [q7] at r7
  rw [q8] at r8
  unfold selvedgelaw17_shown.f
  rw [append_is _ _ _ _ _ (by decide) (by decide) (by decide), Option.bind_some, hf]
  dsimp only
  rw [ha]
  dsimp only
  rw [c7, Option.bind_some]
  dsimp only
  rw [r7, Option.bind_some, c8, Option.bind_some]
  dsimp only
  rw [r8, Option.bind_some, if_pos rfl, if_pos (by rw [hz]; rfl), if_pos (by simp), if_pos (by simp), if_pos (by simp)]
  show some (abB.toList == [97, 98]) = some true
  rw [Lib.toList_data]
  rfl
def synB (s w : ByteArray) (fu : Int) (off : Bool) : ByteArray × ByteArray × Int × Bool × Int := if off = true then (s, w, fu, off, 6) else (s ++ w, (⟨#[]⟩ : ByteArray), fu, off, 0)
theorem sync_is (s w : ByteArray) (fu : Int) (off : Bool) (h : s.size + w.size ≤ 1000000000) : paper_Sync.f s w fu off = some (synB s w fu off) := by
  unfold paper_Sync.f synB
  cases off with
  | true => rfl
  | false =>
    simp only [Bool.false_eq_true, if_false]
    rw [if_pos (by omega)]
theorem one_short (t : ByteArray) (h : t.size ≤ 65536) (n : Nat) (hn : n < (frm t).size) : one ((frm t).extract 0 n) = none := by
  cases h1 : one ((frm t).extract 0 n) with
  | none => rfl
  | some p =>
    obtain ⟨u, r⟩ := p
    obtain ⟨e, hu⟩ := Sa.one_ok h1
    have e2 : frm t = frm u ++ (r ++ (frm t).extract n (frm t).size) := by
      rw [← ByteArray.append_assoc, ← e, Sa.cut_join (by omega)]
    have h2 := Sa.one_frm u (r ++ (frm t).extract n (frm t).size) hu
    have h3 := Sa.one_frm t ByteArray.empty h
    rw [ByteArray.append_empty, e2, h2] at h3
    have h4 := congrArg ByteArray.size (Prod.mk.inj (Option.some.inj h3)).2
    rw [ByteArray.size_append, ByteArray.size_extract, ByteArray.size_empty] at h4
    omega
/-- how many frames end at c at most -/
def cnt : List ByteArray → Nat → Nat
  | [], _ => 0
  | t :: l, c => if (frm t).size ≤ c then cnt l (c - (frm t).size) + 1 else 0
theorem cnt_le : ∀ (l : List ByteArray) (c : Nat), cnt l c ≤ l.length
  | [], _ => Nat.le_refl _
  | t :: l, c => by rw [cnt]; split <;> have := cnt_le l (c - (frm t).size) <;> simp only [List.length_cons] <;> omega
theorem cut_recs : ∀ (l : List ByteArray) (c : Nat), Recs l → c ≤ (frs l).size → ∃ r, (frs l).extract 0 c = frs (l.take (cnt l c)) ++ r ∧ one r = none
  | [], c, _, hc => by
    refine ⟨ByteArray.empty, ?_, Sa.one_empty⟩
    rw [frs, cnt, List.take_nil, frs, ByteArray.append_empty]
    exact ByteArray.extract_eq_empty_iff.2 (by rw [ByteArray.size_empty]; omega)
  | t :: l, c, hl, hc => by
    rw [frs, ByteArray.size_append] at hc
    rw [cnt, frs]
    by_cases h : (frm t).size ≤ c
    · obtain ⟨r, e, hr⟩ := cut_recs l (c - (frm t).size) (fun x hx => hl x (by simp [hx])) (by omega)
      refine ⟨r, ?_, hr⟩
      rw [if_pos h, List.take_succ_cons, frs, ByteArray.append_assoc, ← e]
      exact Sa.ext_big h
    · refine ⟨(frm t).extract 0 c, ?_, one_short t (hl t (by simp)) c (by omega)⟩
      rw [if_neg h, List.take_zero, frs, ByteArray.empty_append]
      exact Sa.ext_small (by omega)
theorem beg_is (a b : List ByteArray) (h : a = b.take a.length) (hl : b.length ≤ 1000000000) : Evk (fun k => selvedgelaw17_begins.f k a b) true := by
  have h1 : a.length ≤ b.length := by
    have := congrArg List.length h
    rw [List.length_take] at this
    omega
  refine ((same_ev a (by omega)).bind (g := fun _ t => some t) (Evk.ret _)).of_eq fun k => ?_
  unfold selvedgelaw17_begins.f
  rw [if_pos (by omega), if_pos (by omega), Int.toNat_natCast, ← h]
theorem evk_big {α : Type} {f g : Nat → Option α} {v : α} (K : Nat) (hg : Evk g v) (h : ∀ k, K ≤ k → f (k + 1) = g k) : Evk f v := by
  obtain ⟨k0, h0⟩ := hg
  refine ⟨max k0 K + 1, fun k hk => ?_⟩
  obtain ⟨k', rfl⟩ : ∃ k', k = k' + 1 := ⟨k - 1, by omega⟩
  rw [h k' (by omega)]
  exact h0 k' (by omega)
theorem one_pre {r : ByteArray} {d : Nat} (h : one r = none) (hd : d ≤ r.size) : one (r.extract 0 d) = none := by
  cases h1 : one (r.extract 0 d) with
  | none => rfl
  | some p =>
    obtain ⟨u, q⟩ := p
    obtain ⟨e, hu⟩ := Sa.one_ok h1
    have e2 : r = frm u ++ (q ++ r.extract d r.size) := by rw [← ByteArray.append_assoc, ← e, Sa.cut_join hd]
    rw [e2, Sa.one_frm u _ hu] at h
    cases h
theorem cut_more (B : List ByteArray) (r : ByteArray) (c : Nat) (hB : Recs B) (hr : one r = none) (hc : c ≤ (frs B ++ r).size) : ∃ n r', (frs B ++ r).extract 0 c = frs (B.take n) ++ r' ∧ one r' = none := by
  by_cases h : c ≤ (frs B).size
  · obtain ⟨r', e, hr'⟩ := cut_recs B c hB h
    exact ⟨cnt B c, r', by rw [← e]; exact Sa.ext_small h, hr'⟩
  · refine ⟨B.length, r.extract 0 (c - (frs B).size), ?_, one_pre hr (by rw [ByteArray.size_append] at hc; omega)⟩
    rw [List.take_length]
    exact Sa.ext_big (by omega)
structure LInv (S A : List ByteArray) (s w : ByteArray) (fu : Int) (off : Bool) : Prop where
  safe : s = frs S
  ex : ∃ B r, A = S ++ B ∧ w = frs B ++ r ∧ one r = none ∧ (off = false → r = ByteArray.empty)
  recs : Recs A
  sz : s.size + w.size ≤ 1048576
  fu0 : -1 ≤ fu ∧ fu ≤ 9223372036854775807
theorem LInv.all {S A : List ByteArray} {s w : ByteArray} {fu : Int} {off : Bool} (h : LInv S A s w fu off) : recsB (s ++ w) = A := by
  obtain ⟨B, r, e1, e2, hr, _⟩ := h.ex
  refine (Sa.recs_is (l := A) (r := r) ?_ h.recs hr).1
  rw [h.safe, e2, e1, Sa.frs_app, ByteArray.append_assoc]
theorem LInv.len {S A : List ByteArray} {s w : ByteArray} {fu : Int} {off : Bool} (h : LInv S A s w fu off) : A.length ≤ 1048576 := by
  have h1 := recs_len (s ++ w)
  rw [h.all, ByteArray.size_append] at h1
  have := h.sz
  omega
theorem LInv.pre {S A : List ByteArray} {s w : ByteArray} {fu : Int} {off : Bool} (h : LInv S A s w fu off) : S = A.take S.length := by
  obtain ⟨B, r, e1, _⟩ := h.ex
  rw [e1, List.take_left]
theorem rdT {l : List S76} {i : Nat} (h : i < l.length) : rd_T76 l (i : Int) = l[i] := by
  unfold rd_T76
  rw [Int.toNat_natCast, List.getD_eq_getElem?_getD, List.getElem?_eq_getElem h]
  rfl
theorem lasts_j {x0 : List S76} {S A : List ByteArray} {s w : ByteArray} {fu : Int} {off : Bool} {i : Nat} (hi : i < x0.length) (hx : x0.length ≤ 100000000) (h : LInv S A s w fu off) (ih : Evk (fun k => selvedgelaw17_PaperLasts.l0 k x0 true S A ((i + 1 : Nat) : Int) s w fu off) true) : Evk (fun k => selvedgelaw17_PaperLasts.j1 k x0 true S A (i : Int) s w fu off) true := by
  have hl := h.len
  have hz := h.sz
  obtain ⟨kb, hb⟩ := beg_is S A h.pre (by omega)
  obtain ⟨ks, hs⟩ := same_ev A (by omega)
  refine evk_big (max kb (max ks 1100000)) ih fun k hk => ?_
  have hbk : selvedgelaw17_begins.f k S A = some true := hb k (by omega)
  have hsk : selvedgeref01_Same.f k A A = some true := hs k (by omega)
  rw [selvedgelaw17_PaperLasts.j1, records_is _ _ _ _ (by omega) k (by omega), h.all, Option.bind_some, hbk, Option.bind_some, if_pos rfl, hsk, Option.bind_some, if_pos rfl, succ_ok hi (by omega)]
theorem lasts_l (x0 : List S76) (hx : x0.length ≤ 100000000) (ht : ∀ x ∈ x0, x.f2.size ≤ 1048576 ∧ x.f1 ≤ 9223372036854775807) : ∀ (m i : Nat) (S A : List ByteArray) (s w : ByteArray) (fu : Int) (off : Bool), i + m = x0.length → LInv S A s w fu off → Evk (fun k => selvedgelaw17_PaperLasts.l0 k x0 true S A (i : Int) s w fu off) true
  | 0, i, S, A, s, w, fu, off, hi, h => by
    refine (Evk.ret true).step fun k => ?_
    rw [selvedgelaw17_PaperLasts.l0, if_neg (by omega)]
  | m + 1, i, S, A, s, w, fu, off, hi, h => by
    have hlt : i < x0.length := by omega
    obtain ⟨ht1, ht2⟩ := ht _ (List.getElem_mem hlt)
    have go : ∀ {S' A' s' w' fu' off'}, LInv S' A' s' w' fu' off' → Evk (fun k => selvedgelaw17_PaperLasts.j1 k x0 true S' A' (i : Int) s' w' fu' off') true := fun {S' A' s' w' fu' off'} h' => lasts_j hlt hx h' (lasts_l x0 hx ht m (i + 1) S' A' s' w' fu' off' (by omega) h')
    obtain ⟨B, r, e1, e2, hr, hro⟩ := h.ex
    have hz := h.sz
    have hfu := h.fu0
    have hl := h.len
    have hgo := go h
    by_cases c1 : x0[i].f0 = 1
    · -- a record more
      have hap := append_is s w fu off x0[i].f2 (by omega) (by omega) (by omega)
      by_cases c65 : 65536 < x0[i].f2.size
      · have hf : fraB x0[i].f2 = ((⟨#[]⟩ : ByteArray), 4) := by unfold fraB; rw [if_pos c65]
        have ha : Sa.appB s w fu off (⟨#[]⟩ : ByteArray) 4 = (s, w, fu, off, 4) := by unfold Sa.appB; rw [if_pos (by decide)]
        rw [hf] at hap
        dsimp only at hap
        rw [ha] at hap
        refine hgo.step fun k => ?_
        rw [selvedgelaw17_PaperLasts.l0, if_pos (by omega), if_pos (by omega), rdT hlt, if_pos c1, hap, Option.bind_some]
        dsimp only
        rw [if_neg (by decide)]
      · have hf : fraB x0[i].f2 = (frm x0[i].f2, 0) := by unfold fraB; rw [if_neg c65]
        have hfz := frm_size x0[i].f2
        rw [hf] at hap
        dsimp only at hap
        by_cases c2 : off = true
        · have ha : Sa.appB s w fu off (frm x0[i].f2) 0 = (s, w, fu, off, 6) := by unfold Sa.appB; rw [if_neg (by decide), if_pos c2]
          rw [ha] at hap
          refine hgo.step fun k => ?_
          rw [selvedgelaw17_PaperLasts.l0, if_pos (by omega), if_pos (by omega), rdT hlt, if_pos c1, hap, Option.bind_some]
          dsimp only
          rw [if_neg (by decide)]
        · have c2' : off = false := by cases off with
            | true => exact absurd rfl c2
            | false => rfl
          subst c2'
          have hre := hro rfl
          subst hre
          rw [ByteArray.append_empty] at e2
          by_cases c3 : 1048576 < s.size + w.size + (frm x0[i].f2).size
          · have ha : Sa.appB s w fu false (frm x0[i].f2) 0 = (s, w, fu, false, 5) := by unfold Sa.appB; rw [if_neg (by decide), if_neg (by decide), if_pos c3]
            rw [ha] at hap
            refine hgo.step fun k => ?_
            rw [selvedgelaw17_PaperLasts.l0, if_pos (by omega), if_pos (by omega), rdT hlt, if_pos c1, hap, Option.bind_some]
            dsimp only
            rw [if_neg (by decide)]
          · by_cases c4 : 0 ≤ fu ∧ fu < ((frm x0[i].f2).size : Int)
            · have ha : Sa.appB s w fu false (frm x0[i].f2) 0 = (s, w ++ (frm x0[i].f2).extract 0 fu.toNat, 0, true, 6) := by unfold Sa.appB; rw [if_neg (by decide), if_neg (by decide), if_neg c3, if_pos c4]
              rw [ha] at hap
              have hn : LInv S A s (w ++ (frm x0[i].f2).extract 0 fu.toNat) 0 true := by
                refine ⟨h.safe, ⟨B, (frm x0[i].f2).extract 0 fu.toNat, e1, by rw [← e2], one_short _ (by omega) _ (by omega), fun hh => by cases hh⟩, h.recs, ?_, by omega⟩
                rw [ByteArray.size_append, ByteArray.size_extract]
                omega
              refine (go hn).step fun k => ?_
              rw [selvedgelaw17_PaperLasts.l0, if_pos (by omega), if_pos (by omega), rdT hlt, if_pos c1, hap, Option.bind_some]
              dsimp only
              rw [if_neg (by decide)]
            · have ha : Sa.appB s w fu false (frm x0[i].f2) 0 = (s, w ++ frm x0[i].f2, if 0 ≤ fu then fu - ((frm x0[i].f2).size : Int) else fu, false, 0) := by unfold Sa.appB; rw [if_neg (by decide), if_neg (by decide), if_neg c3, if_neg c4]
              rw [ha] at hap
              have hn : LInv S (A ++ [x0[i].f2]) s (w ++ frm x0[i].f2) (if 0 ≤ fu then fu - ((frm x0[i].f2).size : Int) else fu) false := by
                refine ⟨h.safe, ⟨B ++ [x0[i].f2], ByteArray.empty, by rw [e1, List.append_assoc], ?_, Sa.one_empty, fun _ => rfl⟩, ?_, ?_, ?_⟩
                · rw [e2, Sa.frs_app, ByteArray.append_empty]; simp only [frs]; rw [ByteArray.append_empty]
                · intro x hx'
                  rcases List.mem_append.1 hx' with h1 | h1
                  · exact h.recs x h1
                  · rw [List.mem_singleton.1 h1]; omega
                · rw [ByteArray.size_append]; omega
                · split <;> omega
              refine (go hn).step fun k => ?_
              rw [selvedgelaw17_PaperLasts.l0, if_pos (by omega), if_pos (by omega), rdT hlt, if_pos c1, hap, Option.bind_some]
              dsimp only
              rw [if_pos rfl, Option.bind_some, if_pos (by simp; omega), Option.bind_some, Option.bind_some, if_pos (by simp; omega), List.nil_append]
    · by_cases c2 : x0[i].f0 = 2
      · have hsy := sync_is s w fu off (by omega)
        by_cases co : off = true
        · have ha : synB s w fu off = (s, w, fu, off, 6) := by unfold synB; rw [if_pos co]
          rw [ha] at hsy
          refine hgo.step fun k => ?_
          rw [selvedgelaw17_PaperLasts.l0, if_pos (by omega), if_pos (by omega), rdT hlt, if_neg c1, if_pos c2, hsy, Option.bind_some]
          dsimp only
          rw [if_neg (by decide)]
        · have ha : synB s w fu off = (s ++ w, (⟨#[]⟩ : ByteArray), fu, off, 0) := by unfold synB; rw [if_neg co]
          rw [ha] at hsy
          have c2' : off = false := by cases off with
            | true => exact absurd rfl co
            | false => rfl
          have hre := hro c2'
          subst hre
          have hn : LInv A A (s ++ w) (⟨#[]⟩ : ByteArray) fu off := by
            refine ⟨?_, ⟨[], ByteArray.empty, (List.append_nil _).symm, ?_, Sa.one_empty, fun _ => rfl⟩, h.recs, ?_, hfu⟩
            · rw [h.safe, e2, e1, Sa.frs_app, ByteArray.append_empty]
            · rw [frs, ByteArray.append_empty]; rfl
            · rw [ByteArray.size_append]; show s.size + w.size + 0 ≤ _; omega
          refine (go hn).step fun k => ?_
          rw [selvedgelaw17_PaperLasts.l0, if_pos (by omega), if_pos (by omega), rdT hlt, if_neg c1, if_pos c2, hsy, Option.bind_some]
          dsimp only
          rw [if_pos rfl]
      · by_cases c3 : x0[i].f0 = 3
        · obtain ⟨nn, hnn⟩ : ∃ nn, min x0[i].f1.toNat w.size = nn := ⟨_, rfl⟩
          have hB : Recs B := fun x hx' => h.recs x (by rw [e1]; exact List.mem_append_right _ hx')
          obtain ⟨n, r', e3, hr'⟩ := cut_more B r nn hB hr (by rw [← e2]; omega)
          have hRn : Recs (S ++ B.take n) := by
            intro x hx'
            refine h.recs x ?_
            rw [e1]
            rcases List.mem_append.1 hx' with h1 | h1
            · exact List.mem_append_left _ h1
            · exact List.mem_append_right _ (List.mem_of_mem_take h1)
          have hrec : recsB (s ++ w.extract 0 nn) = S ++ B.take n := (Sa.recs_is (r := r') (by rw [h.safe, e2, e3, Sa.frs_app, ByteArray.append_assoc]) hRn hr').1
          have hzc : (frs (S ++ B.take n)).size ≤ s.size + w.size := by
            have h1 := Sa.endB_le (s ++ w.extract 0 nn)
            rw [Sa.endB_is, hrec, ByteArray.size_append, ByteArray.size_extract] at h1
            omega
          have hn : LInv (S ++ B.take n) (S ++ B.take n) (frs (S ++ B.take n)) (⟨#[]⟩ : ByteArray) (-1) false := by
            refine ⟨rfl, ⟨[], ByteArray.empty, (List.append_nil _).symm, ?_, Sa.one_empty, fun _ => rfl⟩, hRn, ?_, by omega⟩
            · rw [frs, ByteArray.append_empty]; rfl
            · show _ + 0 ≤ _; omega
          have hln := hn.len
          obtain ⟨k1, hk1⟩ := beg_is S (S ++ B.take n) (by rw [List.take_left]) (by omega)
          obtain ⟨k2, hk2⟩ := beg_is (S ++ B.take n) A (by rw [e1, List.length_append, List.take_length_add_append, List.length_take]; congr 1; rw [← List.take_take]; simp) (by omega)
          refine evk_big (max k1 (max k2 1100000)) (go hn) fun k hk => ?_
          have b1 : selvedgelaw17_begins.f k S (S ++ B.take n) = some true := hk1 k (by omega)
          have b2 : selvedgelaw17_begins.f k (S ++ B.take n) A = some true := hk2 k (by omega)
          rw [selvedgelaw17_PaperLasts.l0, if_pos (by omega), if_pos (by omega), rdT hlt, if_neg c1, if_neg c2, if_pos c3, crash_is _ _ _ _ _ (by omega) k (by omega), hnn, hrec, Option.bind_some]
          dsimp only
          rw [records_is _ _ _ _ (by show _ + 0 ≤ _; omega) k (by show _ + 0 + 20 ≤ _; omega), hn.all, Option.bind_some, b1, Option.bind_some, if_pos rfl, b2, Option.bind_some, if_pos rfl]
        · by_cases c4 : x0[i].f0 = 4
          · have hm : -1 ≤ mx x0[i].f1 (-1) ∧ mx x0[i].f1 (-1) ≤ 9223372036854775807 := by unfold mx; split <;> omega
            have hn : LInv S A s w (mx x0[i].f1 (-1)) off := ⟨h.safe, h.ex, h.recs, h.sz, hm⟩
            refine (go hn).step fun k => ?_
            rw [selvedgelaw17_PaperLasts.l0, if_pos (by omega), if_pos (by omega), rdT hlt, if_neg c1, if_neg c2, if_neg c3, if_pos c4]
            unfold paper_Arm.f
            rw [Option.bind_some]
          · refine hgo.step fun k => ?_
            rw [selvedgelaw17_PaperLasts.l0, if_pos (by omega), if_pos (by omega), rdT hlt, if_neg c1, if_neg c2, if_neg c3, if_neg c4]
theorem bulk_t : ∀ (l : List S76), l.length ≤ (l.map B76).sum ∧ ∀ x ∈ l, x.f2.size ≤ (l.map B76).sum
  | [] => ⟨Nat.le_refl _, fun x hx => by simp at hx⟩
  | t :: l => by
    have ih := bulk_t l
    have hB : B76 t = 1 + 1 + (t.f2.size + 1) + 1 := rfl
    rw [List.map_cons, List.sum_cons, List.length_cons, hB]
    refine ⟨by omega, fun x hx => ?_⟩
    rcases List.mem_cons.1 hx with rfl | h
    · omega
    · have := ih.2 x h; omega
theorem PaperLasts : selvedgelaw17_PaperLasts.Pure := by
  intro l h1 hB
  simp only at hB h1
  have hb := bulk_t l
  have hi : LInv [] [] (⟨#[]⟩ : ByteArray) (⟨#[]⟩ : ByteArray) (-1) false := by
    refine ⟨rfl, ⟨[], ByteArray.empty, rfl, ?_, Sa.one_empty, fun _ => rfl⟩, fun x hx => by simp at hx, by decide, by decide⟩
    rw [frs, ByteArray.append_empty]; rfl
  obtain ⟨k0, hk0⟩ := lasts_l l (by omega) (fun x hx => ⟨by have := hb.2 x hx; omega, by have := h1.2 x hx; unfold G76 at this; exact (wfI this.2.1).2⟩) l.length 0 [] [] _ _ _ _ (by omega) hi
  refine ⟨max 1000 k0, ?_⟩
  unfold selvedgelaw17_PaperLasts.f
  rw [shown_is _ (by omega), Option.bind_some]
  exact hk0 _ (by omega)

end Go.Proofs.Ytiknkkkfkifahaa.Pure
