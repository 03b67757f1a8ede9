/- Proved: the pure half of the law PaperActs of chapter 17 (what the walked program computes is 'true'). Conditions: those of its row, no other. -/
import Derived.Test.YtiknkkkfkifahaaArgPaperActs
import Derived.Test.YtiknkkkfkifahaaEk
import Derived.Test.YtiknkkkfkifahaaTk
import Derived.IntWalk
import Derived.KernelRfl
namespace Go.Proofs.Ytiknkkkfkifahaa.Pure
open Go.IntWalk Go.RowKit Go.Proofs.Ytiknkkkfkifahaa.PPaperActs Go.Proofs.YtiknkkkfkifahaaW.PrintWords Go.Proofs.YtiknkkkfkifahaaW.PrintLast Go.Proofs.Ytiknkkkfkifahaa.Ek
open Go.Proofs.Ytiknkkkfkifahaa.Sa (valN valN_64 tkN tkT tkT_sizes bt_nn bt_lt ba_nil ba_toList one frm frm_size rds frs frl recsB restB endB Recs sum4)
open Go.Proofs.Ytiknkkkfkifahaa.Sm (sumB sumB_size)
set_option linter.unusedSimpArgs false
set_option linter.unusedVariables false

theorem succ_ok {i n : Nat} (h : i < n) (hn : n ≤ 1000000000000000) : wrap64 ((i : Int) + 1) = ((i + 1 : Nat) : Int) := by rw [wrap64_in _ (by omega)]; omega
theorem wfI {n : Int} (h : (Lit.int .i64 n).wf = true) : -9223372036854775808 ≤ n ∧ n ≤ 9223372036854775807 := by
  simp [Lit.wf, IntKind.min, IntKind.max, IntKind.signed, IntKind.bits] at h
  omega
theorem wb (s : ByteArray) (i : Int) : wrap64 (bt s i) = bt s i := by have := bt_range s i; exact wrap64_in _ (by omega)
theorem rds' {l : List ByteArray} {i : Nat} (h : i < l.length) : rdOf ByteArray.empty l (i : Int) = l[i] := by
  unfold rdOf
  rw [Int.toNat_natCast, List.getD_eq_getElem?_getD, List.getElem?_eq_getElem h]
  rfl
theorem or256 (a b : Nat) (ha : a < 72057594037927936) (hb : b < 256) : bits .or .u64 (IntKind.u64.wrap ((a : Int) * 256)) (IntKind.u64.wrap (b : Int)) = ((a * 256 + b : Nat) : Int) := by
  rw [IntKind.wrap_u64, IntKind.wrap_u64, Int.emod_eq_of_lt (by omega) (by omega), Int.emod_eq_of_lt (by omega) (by omega)]
  rw [bits_join .u64 64 (by decide) wraps_u64 8 ((a : Int) * 256) b (by omega) (by rw [show (2 : Int) ^ 8 = 256 by decide]; omega) (by rw [show (2 : Int) ^ 64 = 18446744073709551616 by decide]; omega) (by omega) (by rw [show (2 : Int) ^ 8 = 256 by decide]; omega) (by rw [show (2 : Int) ^ 64 = 18446744073709551616 by decide]; omega)]
  omega
theorem valN_56 (s : ByteArray) {k : Nat} (h : k < 8) : valN s k < 72057594037927936 := by
  have h1 : (256 : Nat) ^ k ≤ 256 ^ 7 := Nat.pow_le_pow_right (by decide) (by omega)
  exact Nat.lt_of_lt_of_le (Sa.valN_lt s k) (Nat.le_trans h1 (by decide))
theorem valN_next (s : ByteArray) (k : Nat) : valN s (k + 1) = valN s k * 256 + (bt s ((k + 1 : Nat) : Int)).toNat := rfl
theorem num_l (s : ByteArray) (n : Nat) (hn : n ≤ 8) (hs : n < s.size) (hS : s.size ≤ 1000000000000000) : ∀ (m i k : Nat), i + m = n → digits_TakeNum.l0 (m + 1 + k) s (n : Int) ((valN s i : Nat) : Int) ((i + 1 : Nat) : Int) = some (((valN s n : Nat) : Int), s.extract (n + 1) s.size, 0)
  | 0, i, k, h => by
    obtain rfl : i = n := by omega
    rw [show 0 + 1 + k = k + 1 by omega, digits_TakeNum.l0, if_neg (by omega), succ_ok (n := s.size) (by omega) hS, if_pos (by omega), if_pos (by omega), Int.toNat_natCast]
  | m + 1, i, k, h => by
    have ih := num_l s n hn hs hS m (i + 1) k (by omega)
    have e := or256 (valN s i) (bt s ((i + 1 : Nat) : Int)).toNat (valN_56 s (by omega)) (bt_lt _ _)
    rw [bt_nn, ← valN_next] at e
    rw [show m + 1 + 1 + k = m + 1 + k + 1 by omega, digits_TakeNum.l0, if_pos (by omega), if_pos (by omega), if_pos (by omega), e, succ_ok (i := i + 1) (n := s.size) (by omega) hS]
    exact ih
theorem num_is (s : ByteArray) (hS : s.size ≤ 1000000000000000) (k : Nat) (hk : 12 ≤ k) : digits_TakeNum.f k s = some (((tkN s).1 : Int), (tkN s).2.1, (tkN s).2.2) := by
  have hb := bt_range s 0
  have hn := bt_nn s 0
  unfold digits_TakeNum.f tkN
  by_cases c1 : s.size = 0
  · rw [if_pos (ba_nil.2 c1), if_pos c1]; rfl
  · rw [if_neg (fun h => c1 (ba_nil.1 h)), if_neg c1, if_pos (by omega), wb]
    by_cases c2 : 8 < (bt s 0).toNat
    · rw [if_pos (by omega), if_pos c2]; rfl
    · rw [if_neg (by omega), if_neg c2]
      by_cases c3 : s.size ≤ (bt s 0).toNat
      · rw [if_pos (by omega), if_pos c3]; rfl
      · rw [if_neg (by omega), if_neg c3]
        have key : digits_TakeNum.j0 k s (bt s 0) = some (((valN s (bt s 0).toNat : Nat) : Int), s.extract ((bt s 0).toNat + 1) s.size, 0) := by
          obtain ⟨k', rfl⟩ : ∃ k', k = ((bt s 0).toNat + 1 + k') + 1 := ⟨k - (bt s 0).toNat - 2, by omega⟩
          have := num_l s (bt s 0).toNat (by omega) (by omega) hS (bt s 0).toNat 0 k' (by omega)
          rw [hn] at this
          rw [digits_TakeNum.j0]
          exact this
        by_cases c4 : 0 < (bt s 0).toNat
        · rw [if_pos (by omega), if_pos (by omega)]
          by_cases c5 : bt s 1 = 0
          · rw [if_pos c5, if_pos ⟨c4, c5⟩]; rfl
          · rw [if_neg c5, if_neg (fun h => c5 h.2)]; exact key
        · rw [if_neg (by omega), if_neg (fun h => c4 h.1)]; exact key
theorem u64n (n : Nat) (h : n < 18446744073709551616) : IntKind.u64.wrap (n : Int) = n := by rw [IntKind.wrap_u64]; omega
theorem tkN_sizes (s : ByteArray) : (tkN s).2.1.size ≤ s.size := by
  unfold tkN
  repeat' split
  all_goals first | exact Nat.zero_le _ | (dsimp only; rw [ByteArray.size_extract]; omega)
theorem text_is (s : ByteArray) (hS : s.size ≤ 1000000000000000) (k : Nat) (hk : 12 ≤ k) : digits_TakeText.f k s 65536 = some (tkT s) := by
  have hz := tkN_sizes s
  unfold digits_TakeText.f tkT
  rw [num_is s hS k hk, Option.bind_some]
  dsimp only
  by_cases c1 : (tkN s).2.2 = 0
  · rw [if_pos c1, if_pos c1, if_neg (by omega)]
    obtain ⟨k', rfl⟩ : ∃ k', k = k' + 1 := ⟨k - 1, by omega⟩
    have e1 : IntKind.u64.wrap 65536 = 65536 := by rw [IntKind.wrap_u64]; rfl
    rw [digits_TakeText.j0, e1, u64n _ (by omega)]
    by_cases c2 : 65536 < (tkN s).1
    · rw [if_pos (by simp; omega), if_pos c2]
    · rw [if_neg (by simp; omega), if_neg c2]
      by_cases c3 : (tkN s).2.1.size < (tkN s).1
      · rw [if_pos (by omega), if_pos c3]
      · rw [if_neg (by omega), if_neg c3, if_pos (by omega), if_pos (by omega), Int.toNat_natCast]
  · rw [if_neg c1, if_neg c1]
theorem toL4 (t u : ByteArray) : ((sumB t).extract 0 4).toList = (u.extract 0 4).toList ↔ (sumB t).extract 0 4 = u.extract 0 4 := ba_toList
theorem frsO_is (s : ByteArray) (tk : ByteArray → Option (ByteArray × ByteArray × Int)) (hS : s.size ≤ 140737488351232) (h : ∀ x : ByteArray, x.size ≤ s.size → tk x = some (tkT x)) : ∀ (m i : Nat), i ≤ s.size → s.size - i < m → Sa.frsO sumB tk s m i = some (frl s.size m (s.extract i s.size))
  | 0, i, hi, hm => by omega
  | m + 1, i, hi, hm => by
    have hsz : (s.extract i s.size).size = s.size - i := by rw [ByteArray.size_extract]; omega
    rw [Sa.frsO, frl]
    by_cases c1 : i < s.size
    · rw [if_pos c1, h _ (by omega), Option.bind_some]
      obtain ⟨z1, z2⟩ := tkT_sizes (s.extract i s.size)
      cases h1 : one (s.extract i s.size) with
      | none =>
        dsimp only
        unfold one at h1
        by_cases c2 : (tkT (s.extract i s.size)).2.2 = 0
        · rw [if_pos c2]
          by_cases c3 : (tkT (s.extract i s.size)).2.1.size < 4
          · rw [if_pos c3]
          · have ht := (Sa.tkT_ok c2).1
            have hz := congrArg ByteArray.size ht
            unfold Sa.textB at hz
            rw [ByteArray.size_append, ByteArray.size_append, Sa.numB_size] at hz
            rw [if_neg c3, if_pos ⟨by omega, by omega, by omega⟩, if_neg (fun e => ?_)]
            rw [if_pos ⟨c2, by omega, (toL4 _ _).1 e⟩] at h1
            cases h1
        · rw [if_neg c2]
      | some p =>
        obtain ⟨t, r⟩ := p
        dsimp only
        have ho := Sa.one_ok h1
        have hz := congrArg ByteArray.size ho.1
        rw [ByteArray.size_append, frm_size, hsz] at hz
        unfold one at h1
        split at h1
        · rename_i c
          obtain ⟨c2, c3, c4⟩ := c
          obtain ⟨e1, e2⟩ := Prod.mk.inj (Option.some.inj h1)
          have hr : r.size = (tkT (s.extract i s.size)).2.1.size - 4 := by rw [← e2, ByteArray.size_extract]; omega
          rw [if_pos c2, if_neg (by omega), if_pos ⟨by omega, by omega, by omega⟩, if_pos ((toL4 _ _).2 c4), e1]
          have ep : s.size - (tkT (s.extract i s.size)).2.1.size + 4 = s.size - r.size := by omega
          have er : s.extract (s.size - r.size) s.size = r := Sa.tail_of hi ho.1
          rw [ep, frsO_is s tk hS h m (s.size - r.size) (by omega) (by omega), er]
          rfl
        · cases h1
    · have e : s.extract i s.size = ByteArray.empty := ByteArray.extract_eq_empty_iff.2 (by omega)
      rw [if_neg c1, e, Sa.one_empty]
theorem frl_len (n : Nat) : ∀ (m : Nat) (s : ByteArray), (frl n m s).length ≤ m
  | 0, s => Nat.zero_le _
  | m + 1, s => by
    rw [frl]
    cases one s with
    | none => exact Nat.zero_le _
    | some p => have := frl_len n m p.2; simp only [List.length_cons]; omega
theorem frl_fix (n : Nat) : ∀ (m : Nat) (s : ByteArray), s.size ≤ m → frl n m s = frl n s.size s
  | m, s, h => by
    have key : ∀ (m1 m2 : Nat) (s : ByteArray), s.size ≤ m1 → s.size ≤ m2 → frl n m1 s = frl n m2 s := by
      intro m1
      induction m1 with
      | zero =>
        intro m2 s h1 h2
        have e : s = ByteArray.empty := ByteArray.size_eq_zero_iff.1 (by omega)
        cases m2 with
        | zero => rfl
        | succ m2 => rw [frl, frl, e, Sa.one_empty]
      | succ m1 ih =>
        intro m2 s h1 h2
        cases m2 with
        | zero =>
          have e : s = ByteArray.empty := ByteArray.size_eq_zero_iff.1 (by omega)
          rw [frl, frl, e, Sa.one_empty]
        | succ m2 =>
          rw [frl, frl]
          cases h3 : one s with
          | none => rfl
          | some p =>
            obtain ⟨t, r⟩ := p
            have hz := congrArg ByteArray.size (Sa.one_ok h3).1
            rw [ByteArray.size_append, frm_size] at hz
            dsimp only
            rw [ih m2 r (by omega) (by omega)]
    exact key m s.size s h (Nat.le_refl _)
theorem read_is (s : ByteArray) (hS : s.size ≤ 1000000000) (k : Nat) (hk : s.size + 20 ≤ k) : paper_Read.f k s = some (recsB s, (endB s : Int)) := by
  unfold paper_Read.f
  rw [if_pos (by omega), frsO_is s _ (by omega) (fun x hx => text_is x (by omega) k (by omega)) k 0 (Nat.zero_le _) (by omega), ByteArray.extract_zero_size, frl_fix s.size k s (by omega), Option.bind_some]
  have hl := frl_len s.size s.size s
  rw [if_pos (by omega), Sa.frl_recs]
  have h1 := Sa.frl_last s.size s.size s 0
  unfold Sa.lastE
  rw [h1]
  unfold recsB endB restB
  by_cases h : (rds s.size s).1 = []
  · rw [if_pos h]
    have e := (Sa.recs_ok s).1
    unfold recsB restB at e
    rw [h] at e
    have hz := congrArg ByteArray.size e
    rw [frs, ByteArray.empty_append] at hz
    rw [h]
    congr 3
    omega
  · rw [if_neg h]
theorem read_ev (s : ByteArray) (hS : s.size ≤ 1000000000) : Evk (fun k => paper_Read.f k s) (recsB s, (endB s : Int)) := ⟨s.size + 20, fun k hk => read_is s hS k hk⟩
theorem same_l (l : List ByteArray) (hl : l.length ≤ 1000000000) : ∀ (m i : Nat), i + m = l.length → Evk (fun k => selvedgeref01_Same.l0 k l l (i : Int)) true
  | 0, i, hi => (Evk.ret _).step fun k => by rw [selvedgeref01_Same.l0, if_neg (by omega)]
  | m + 1, i, hi => by
    have hlt : i < l.length := by omega
    refine (same_l l hl m (i + 1) (by omega)).step fun k => ?_
    rw [selvedgeref01_Same.l0, if_pos (by omega), if_pos (by omega), if_pos (by omega), if_pos rfl, succ_ok hlt (by omega)]
theorem same_ev (l : List ByteArray) (hl : l.length ≤ 1000000000) : Evk (fun k => selvedgeref01_Same.f k l l) true :=
  (same_l l hl l.length 0 (by omega)).of_eq fun k => by unfold selvedgeref01_Same.f; rw [if_pos rfl]; rfl
theorem recs_len (s : ByteArray) : (recsB s).length ≤ s.size := by
  have e := (Sa.recs_ok s).1
  have key : ∀ l : List ByteArray, l.length ≤ (frs l).size := by
    intro l
    induction l with
    | nil => exact Nat.zero_le _
    | cons t l ih => rw [frs, ByteArray.size_append, frm_size, List.length_cons]; omega
  have h1 := key (recsB s)
  have := congrArg ByteArray.size e
  rw [ByteArray.size_append] at this
  omega
def fraB (t : ByteArray) : ByteArray × Int := if 65536 < t.size then (⟨#[]⟩, 4) else (frm t, 0)
theorem frame_is (t : ByteArray) (hS : t.size ≤ 1000000000) : paper_Frame.f t = some (fraB t) := by
  unfold paper_Frame.f fraB digits_Text.f sha_Sum.f
  by_cases c : 65536 < t.size
  · rw [if_pos (by omega), if_pos c]
  · have h4 := sum4 t
    have hs := sumB_size t
    have ht := Sa.textB_le t
    rw [if_neg (by omega), if_neg c, if_pos (by omega), Option.bind_some, if_pos (by omega), Option.bind_some, if_pos (by decide), if_pos (by omega), if_pos (by rw [h4]; omega)]
    rfl
theorem fraB_size (t : ByteArray) : (fraB t).1.size ≤ 70000 := by
  unfold fraB
  split
  · exact Nat.zero_le _
  · rw [frm_size]; have := Sa.nl_le 8 t.size; omega
theorem crash_is (s w : ByteArray) (fu : Int) (off : Bool) (keep : Int) (hS : s.size + w.size ≤ 1000000000) (k : Nat) (hk : s.size + w.size + 20 ≤ k) :
    paper_Crash.f k s w fu off keep = some (frs (recsB (s ++ w.extract 0 (min keep.toNat w.size))), (⟨#[]⟩ : ByteArray), -1, false) := by
  have e1 : mn (mx keep 0) (w.size : Int) = ((min keep.toNat w.size : Nat) : Int) := by unfold mn mx; (repeat' split) <;> omega
  have hz : (s ++ w.extract 0 (min keep.toNat w.size)).size ≤ s.size + w.size := by rw [ByteArray.size_append, ByteArray.size_extract]; omega
  unfold paper_Crash.f
  rw [e1, if_pos (by omega), if_pos (by omega), Int.toNat_natCast, if_pos (by rw [ByteArray.size_extract]; omega), read_is _ (by omega) k (by omega), Option.bind_some]
  have he := Sa.endB_le (s ++ w.extract 0 (min keep.toNat w.size))
  dsimp only
  rw [if_pos (by omega), if_pos (by omega), Int.toNat_natCast, Sa.endB_cut]
theorem records_is (s w : ByteArray) (fu : Int) (off : Bool) (hS : s.size + w.size ≤ 1000000000) (k : Nat) (hk : s.size + w.size + 20 ≤ k) : paper_Records.f k s w fu off = some (recsB (s ++ w)) := by
  have hz : (s ++ w).size = s.size + w.size := ByteArray.size_append
  unfold paper_Records.f
  rw [if_pos (by omega), read_is _ (by omega) k (by omega), Option.bind_some]
theorem append_is (s w : ByteArray) (fu : Int) (off : Bool) (t : ByteArray) (h1 : s.size + w.size ≤ 1000000000) (h2 : t.size ≤ 1000000000) (h3 : fu ≤ 9223372036854775807) : paper_Append.f s w fu off t = some (Sa.appB s w fu off (fraB t).1 (fraB t).2) := by
  have := fraB_size t
  unfold paper_Append.f
  rw [frame_is t h2, Option.bind_some, if_pos ⟨by omega, by omega, h3⟩]
abbrev abB : ByteArray := ⟨#[97, 98]⟩
theorem nlab : Sa.nl 8 2 = 1 := by decide
theorem recs_one (t : ByteArray) (h : t.size ≤ 65536) : recsB (frm t) = [t] := by
  have := (Sa.recs_frs [t] (fun x hx => by rw [List.mem_singleton.1 hx]; exact h)).1
  rw [frs, frs, ByteArray.append_empty] at this
  exact this
theorem recs_short (t : ByteArray) (h : t.size ≤ 65536) (n : Nat) (hn : n < (frm t).size) : recsB ((frm t).extract 0 n) = [] := by
  have key : one ((frm t).extract 0 n) = none := by
    cases h1 : one ((frm t).extract 0 n) with
    | none => rfl
    | some p =>
      obtain ⟨u, r⟩ := p
      obtain ⟨e, hu⟩ := Sa.one_ok h1
      have e2 : frm t = frm u ++ (r ++ (frm t).extract n (frm t).size) := by
        rw [← ByteArray.append_assoc, ← e, Sa.cut_join (by omega)]
      have h2 := Sa.one_frm u (r ++ (frm t).extract n (frm t).size) hu
      have h3 := Sa.one_frm t ByteArray.empty h
      rw [ByteArray.append_empty, e2, h2] at h3
      have h4 := congrArg ByteArray.size (Prod.mk.inj (Option.some.inj h3)).2
      rw [ByteArray.size_append, ByteArray.size_extract, ByteArray.size_empty] at h4
      omega
  exact (Sa.recs_is (l := []) (by rw [frs, ByteArray.empty_append]) (fun x hx => by simp at hx) key).1
theorem shown_is (k : Nat) (hk : 1000 ≤ k) : selvedgelaw17_shown.f k = some true := by
  have hz : (frm abB).size = 8 := by rw [frm_size]; show 2 + Sa.nl 8 2 + 5 = 8; rw [nlab]
  have hf : fraB abB = (frm abB, 0) := rfl
  have ha : Sa.appB (⟨#[]⟩ : ByteArray) (⟨#[]⟩ : ByteArray) (-1) false (frm abB) 0 = ((⟨#[]⟩ : ByteArray), frm abB, -1, false, 0) := by
    unfold Sa.appB
    rw [if_neg (by simp), if_neg (by simp), if_neg (by rw [hz]; show ¬ 1048576 < 0 + 0 + 8; decide), if_neg (by omega), if_neg (by decide)]
    congr 2
  have c7 := crash_is (⟨#[]⟩ : ByteArray) (frm abB) (-1) false 7 (by rw [hz]; decide) k (by rw [hz]; show 0 + 8 + 20 ≤ k; omega)
  have c8 := crash_is (⟨#[]⟩ : ByteArray) (frm abB) (-1) false 8 (by rw [hz]; decide) k (by rw [hz]; show 0 + 8 + 20 ≤ k; omega)
  have e7 : (⟨#[]⟩ : ByteArray) ++ (frm abB).extract 0 (min (7 : Int).toNat (frm abB).size) = (frm abB).extract 0 7 := by rw [hz]; exact ByteArray.empty_append
  have e8 : (⟨#[]⟩ : ByteArray) ++ (frm abB).extract 0 (min (8 : Int).toNat (frm abB).size) = frm abB := by
    rw [hz]
    show ByteArray.empty ++ (frm abB).extract 0 8 = _
    rw [ByteArray.empty_append, ← hz, ByteArray.extract_zero_size]
  rw [e7, recs_short abB (by decide) 7 (by omega)] at c7
  rw [e8, recs_one abB (by decide)] at c8
  have r7 := records_is (frs []) (⟨#[]⟩ : ByteArray) (-1) false (by decide) k (by show 0 + 0 + 20 ≤ k; omega)
  have r8 := records_is (frs [abB]) (⟨#[]⟩ : ByteArray) (-1) false (by rw [frs, frs, ByteArray.append_empty, hz]; decide) k (by rw [frs, frs, ByteArray.append_empty, hz]; show 8 + 0 + 20 ≤ k; omega)
  have q7 : recsB (frs [] ++ (⟨#[]⟩ : ByteArray)) = [] := by
    show recsB (frs [] ++ ByteArray.empty) = []
    rw [ByteArray.append_empty]; exact (Sa.recs_frs [] (fun x hx => by simp at hx)).1
  have q8 : recsB (frs [abB] ++ (⟨#[]⟩ : ByteArray)) = [abB] := by
    show recsB (frs [abB] ++ ByteArray.empty) = _
    rw [ByteArray.append_empty]; exact (Sa.recs_frs [abB] (fun x hx => by rw [List.mem_singleton.1 hx]; decide)).1
  rw [q7] at r7
  rw [q8] at r8
  unfold selvedgelaw17_shown.f
  rw [append_is _ _ _ _ _ (by decide) (by decide) (by decide), Option.bind_some, hf]
  dsimp only
  rw [ha]
  dsimp only
  rw [c7, Option.bind_some]
  dsimp only
  rw [r7, Option.bind_some, c8, Option.bind_some]
  dsimp only
  rw [r8, Option.bind_some, if_pos rfl, if_pos (by rw [hz]; rfl), if_pos (by simp), if_pos (by simp), if_pos (by simp)]
  show some (abB.toList == [97, 98]) = some true
  rw [Lib.toList_data]
  rfl
def synB (s w : ByteArray) (fu : Int) (off : Bool) : ByteArray × ByteArray × Int × Bool × Int := if off = true then (s, w, fu, off, 6) else (s ++ w, (⟨#[]⟩ : ByteArray), fu, off, 0)
theorem sync_is (s w : ByteArray) (fu : Int) (off : Bool) (h : s.size + w.size ≤ 1000000000) : paper_Sync.f s w fu off = some (synB s w fu off) := by
  unfold paper_Sync.f synB
  cases off with
  | true => rfl
  | false =>
    simp only [Bool.false_eq_true, if_false]
    rw [if_pos (by omega)]
theorem bulk_s {x : S60} (h : B60 x ≤ 1048577) : x.f0.size + x.f1.size ≤ 1048576 := by
  unfold B60 at h
  simp only at h
  omega
theorem rnum_l (s : ByteArray) (n : Nat) (hn : n ≤ 8) (hs : n < s.size) (hS : s.size ≤ 1000000000000000) : ∀ (m i k : Nat), i + m = n → selvedgeref01_TakeNum.l0 (m + 1 + k) s (n : Int) ((valN s i : Nat) : Int) ((i + 1 : Nat) : Int) = some (((valN s n : Nat) : Int), s.extract (n + 1) s.size, 0)
  | 0, i, k, h => by
    obtain rfl : i = n := by omega
    have e : wrap64 (1 + (i : Int)) = ((i + 1 : Nat) : Int) := by rw [wrap64_in _ (by omega)]; omega
    rw [show 0 + 1 + k = k + 1 by omega, selvedgeref01_TakeNum.l0, if_neg (by omega), e, if_pos (by omega), if_pos (by omega), Int.toNat_natCast]
  | m + 1, i, k, h => by
    have ih := rnum_l s n hn hs hS m (i + 1) k (by omega)
    have hv := valN_56 s (k := i) (by omega)
    have hb := bt_lt s ((i + 1 : Nat) : Int)
    have hbn := bt_nn s ((i + 1 : Nat) : Int)
    have e : IntKind.u64.wrap (IntKind.u64.wrap ((valN s i : Nat) * 256 : Int) + IntKind.u64.wrap (bt s ((i + 1 : Nat) : Int))) = ((valN s (i + 1) : Nat) : Int) := by
      rw [valN_next, IntKind.wrap_u64, IntKind.wrap_u64, IntKind.wrap_u64]
      omega
    rw [show m + 1 + 1 + k = m + 1 + k + 1 by omega, selvedgeref01_TakeNum.l0, if_pos (by omega), if_pos (by omega), if_pos (by omega), e, succ_ok (i := i + 1) (n := s.size) (by omega) hS]
    exact ih
theorem rnum_is (s : ByteArray) (hS : s.size ≤ 1000000000000000) (k : Nat) (hk : 12 ≤ k) : selvedgeref01_TakeNum.f k s = some (((tkN s).1 : Int), (tkN s).2.1, (tkN s).2.2) := by
  have hb := bt_range s 0
  have hn := bt_nn s 0
  unfold selvedgeref01_TakeNum.f tkN
  by_cases c1 : s.size = 0
  · rw [if_pos (by omega), if_pos c1]; rfl
  · rw [if_neg (by omega), if_neg c1, if_pos (by omega), wb]
    by_cases c2 : 8 < (bt s 0).toNat
    · rw [if_pos (by omega), if_pos c2]; rfl
    · have w1 : wrap64 (1 + bt s 0) = 1 + bt s 0 := wrap64_in _ (by omega)
      rw [if_neg (by omega), if_neg c2, w1]
      by_cases c3 : s.size ≤ (bt s 0).toNat
      · rw [if_pos (by omega), if_pos c3]; rfl
      · rw [if_neg (by omega), if_neg c3]
        obtain ⟨k', rfl⟩ : ∃ k', k = ((bt s 0).toNat + 1 + k') + 1 := ⟨k - (bt s 0).toNat - 2, by omega⟩
        have key : selvedgeref01_TakeNum.j0 ((bt s 0).toNat + 1 + k' + 1) s (bt s 0) false = some (((valN s (bt s 0).toNat : Nat) : Int), s.extract ((bt s 0).toNat + 1) s.size, 0) := by
          have := rnum_l s (bt s 0).toNat (by omega) (by omega) hS (bt s 0).toNat 0 k' (by omega)
          rw [hn] at this
          rw [selvedgeref01_TakeNum.j0, if_neg (by decide)]
          exact this
        by_cases c4 : 0 < (bt s 0).toNat
        · rw [if_pos (by omega), if_pos (by omega)]
          by_cases c5 : bt s 1 = 0
          · rw [if_pos ⟨c4, c5⟩, c5, selvedgeref01_TakeNum.j0, if_pos (by decide)]; rfl
          · rw [if_neg (fun h => c5 h.2), show (bt s 1 == 0) = false from beq_eq_false_iff_ne.2 c5]; exact key
        · rw [if_neg (by omega), if_neg (fun h => c4 h.1)]; exact key
theorem rtext_is (s : ByteArray) (hS : s.size ≤ 1000000000000000) (k : Nat) (hk : 12 ≤ k) : selvedgeref01_TakeText.f k s 65536 = some (tkT s) := by
  have hz := tkN_sizes s
  unfold selvedgeref01_TakeText.f tkT
  rw [rnum_is s hS k hk, Option.bind_some]
  dsimp only
  by_cases c1 : (tkN s).2.2 = 0
  · rw [if_pos c1, if_pos c1, if_neg (by omega)]
    obtain ⟨k', rfl⟩ : ∃ k', k = k' + 1 := ⟨k - 1, by omega⟩
    have e1 : IntKind.u64.wrap 65536 = 65536 := by rw [IntKind.wrap_u64]; rfl
    rw [selvedgeref01_TakeText.j0, e1, u64n _ (by omega)]
    by_cases c2 : 65536 < (tkN s).1
    · rw [if_pos (by simp; omega), if_pos c2]
    · rw [if_neg (by simp; omega), if_neg c2]
      by_cases c3 : (tkN s).2.1.size < (tkN s).1
      · rw [if_pos (by omega), if_pos c3]
      · rw [if_neg (by omega), if_neg c3, if_pos (by omega), if_pos (by omega), Int.toNat_natCast]
  · rw [if_neg c1, if_neg c1]
theorem rread_l (s : ByteArray) (hS : s.size ≤ 1000000000) : ∀ (m i k : Nat) (out : List ByteArray), i ≤ s.size → s.size - i < m → out.length + m ≤ 2000000000 → 20 ≤ k → selvedgeref17_Read.l0 (2 * m + k) s out (i : Int) = some (out ++ (rds m (s.extract i s.size)).1, ((if (rds m (s.extract i s.size)).1 = [] then i else s.size - (rds m (s.extract i s.size)).2.size : Nat) : Int))
  | 0, i, k, out, hi, hm, ho, hk => by omega
  | m + 1, i, k, out, hi, hm, ho, hk => by
    have hsz : (s.extract i s.size).size = s.size - i := by rw [ByteArray.size_extract]; omega
    rw [show 2 * (m + 1) + k = (2 * m + k) + 1 + 1 by omega, selvedgeref17_Read.l0, rds]
    by_cases c1 : i < s.size
    · rw [if_pos (by omega), if_pos (by omega), if_pos (by omega), Int.toNat_natCast, rtext_is _ (by omega) _ (by omega), Option.bind_some]
      obtain ⟨z1, z2⟩ := tkT_sizes (s.extract i s.size)
      cases h1 : one (s.extract i s.size) with
      | none =>
        dsimp only
        rw [if_pos rfl, List.append_nil]
        unfold one at h1
        by_cases c2 : (tkT (s.extract i s.size)).2.2 = 0
        · rw [if_pos c2]
          by_cases c3 : (tkT (s.extract i s.size)).2.1.size < 4
          · rw [selvedgeref17_Read.j1, if_pos (by simp; omega)]
          · have hs4 := sumB_size (tkT (s.extract i s.size)).1
            unfold selvedgeref17_Read.j1 selvedgeref02_Sum.f
            rw [if_neg (by simp; omega), if_pos (by omega), Option.bind_some, if_pos (by decide), if_pos (by omega), if_pos (by omega), if_neg (fun e => ?_)]
            rw [if_pos ⟨c2, by omega, (toL4 _ _).1 e⟩] at h1
            cases h1
        · rw [if_neg c2, selvedgeref17_Read.j1, if_pos rfl]
      | some p =>
        obtain ⟨t, r⟩ := p
        dsimp only
        have ho2 := Sa.one_ok h1
        have hz := congrArg ByteArray.size ho2.1
        rw [ByteArray.size_append, frm_size, hsz] at hz
        unfold one at h1
        split at h1
        · rename_i c
          obtain ⟨c2, c3, c4⟩ := c
          obtain ⟨e1, e2⟩ := Prod.mk.inj (Option.some.inj h1)
          have hr : r.size = (tkT (s.extract i s.size)).2.1.size - 4 := by rw [← e2, ByteArray.size_extract]; omega
          have hs4 := sumB_size (tkT (s.extract i s.size)).1
          have ep : wrap64 (wrap64 ((s.size : Int) - ((tkT (s.extract i s.size)).2.1.size : Int)) + 4) = ((s.size - r.size : Nat) : Int) := by
            rw [wrap64_in ((s.size : Int) - ((tkT (s.extract i s.size)).2.1.size : Int)) (by omega), wrap64_in _ (by omega)]
            omega
          have er : s.extract (s.size - r.size) s.size = r := Sa.tail_of hi ho2.1
          have ih := rread_l s hS m (s.size - r.size) k (out ++ [t]) (by omega) (by omega) (by rw [List.length_append]; simp; omega) hk
          rw [er] at ih
          unfold selvedgeref17_Read.j1 selvedgeref02_Sum.f
          rw [if_pos c2, if_neg (by simp; omega), if_pos (by omega), Option.bind_some, if_pos (by decide), if_pos (by omega), if_pos (by omega), if_pos ((toL4 _ _).2 c4), if_pos (by omega), ep, e1, ih, if_neg (List.cons_ne_nil _ _), List.append_assoc]
          refine congrArg some (Prod.ext rfl (congrArg (fun n : Nat => (n : Int)) ?_))
          by_cases hn : (rds m r).1 = []
          · rw [if_pos hn]
            have : (rds m r).2 = r := by
              cases m with
              | zero => rfl
              | succ m =>
                rw [rds] at hn ⊢
                cases h2 : one r with
                | none => rfl
                | some q => rw [h2] at hn; simp at hn
            rw [this]
          · rw [if_neg hn]
        · cases h1
    · have e : s.extract i s.size = ByteArray.empty := ByteArray.extract_eq_empty_iff.2 (by omega)
      rw [if_neg (by omega), e, Sa.one_empty]
      dsimp only
      rw [if_pos rfl, List.append_nil]
theorem rread_is (s : ByteArray) (hS : s.size ≤ 1000000000) (k : Nat) (hk : 2 * s.size + 30 ≤ k) : selvedgeref17_Read.f k s = some (recsB s, (endB s : Int)) := by
  have h := rread_l s hS (s.size + 1) 0 (k - 2 * (s.size + 1)) [] (Nat.zero_le _) (by omega) (by simp; omega) (by omega)
  rw [show 2 * (s.size + 1) + (k - 2 * (s.size + 1)) = k by omega, ByteArray.extract_zero_size, List.nil_append] at h
  have o := Sa.recs_ok s
  have e := Sa.rds_frs (restB s) o.2.2 (recsB s) (s.size + 1) o.2.1 (by rw [← o.1]; omega)
  rw [← o.1] at e
  rw [e] at h
  dsimp only at h
  unfold selvedgeref17_Read.f
  rw [show (0 : Int) = ((0 : Nat) : Int) from rfl, h]
  unfold endB
  by_cases hn : recsB s = []
  · rw [if_pos hn]
    have hz := congrArg ByteArray.size o.1
    rw [hn, frs, ByteArray.empty_append] at hz
    congr 3
    omega
  · rw [if_neg hn]
theorem rframe_is (t : ByteArray) (hS : t.size ≤ 1000000000) : selvedgeref17_Frame.f t = some (fraB t) := by
  unfold selvedgeref17_Frame.f fraB selvedgeref01_Text.f selvedgeref02_Sum.f
  by_cases c : 65536 < t.size
  · rw [if_pos (by omega), if_pos c]
  · have h4 := sum4 t
    have hs := sumB_size t
    have ht := Sa.textB_le t
    rw [if_neg (by omega), if_neg c, if_pos (by omega), Option.bind_some, if_pos (by omega), Option.bind_some, if_pos (by decide), if_pos (by omega), if_pos (by rw [h4]; omega)]
    rfl
theorem rsync_is (s w : ByteArray) (fu : Int) (off : Bool) (h : s.size + w.size ≤ 1000000000) : selvedgeref17_Sync.f s w fu off = some (synB s w fu off) := by
  unfold selvedgeref17_Sync.f synB
  cases off with
  | true => rfl
  | false =>
    simp only [Bool.false_eq_true, if_false]
    rw [if_pos (by omega)]
theorem rrecords_is (s w : ByteArray) (fu : Int) (off : Bool) (hS : s.size + w.size ≤ 1000000000) (k : Nat) (hk : 2 * (s.size + w.size) + 30 ≤ k) : selvedgeref17_Records.f k s w fu off = some (recsB (s ++ w)) := by
  have hz : (s ++ w).size = s.size + w.size := ByteArray.size_append
  unfold selvedgeref17_Records.f
  rw [if_pos (by omega), rread_is _ (by omega) k (by omega), Option.bind_some]
theorem rcrash_is (s w : ByteArray) (fu : Int) (off : Bool) (keep : Int) (hS : s.size + w.size ≤ 1000000000) (k : Nat) (hk : 2 * (s.size + w.size) + 30 ≤ k) :
    selvedgeref17_Crash.f k s w fu off keep = some (frs (recsB (s ++ w.extract 0 (min keep.toNat w.size))), (⟨#[]⟩ : ByteArray), -1, false) := by
  have hx : (w.extract 0 (min keep.toNat w.size)).size ≤ w.size := by rw [ByteArray.size_extract]; omega
  have hz : (s ++ w.extract 0 (min keep.toNat w.size)).size = s.size + (w.extract 0 (min keep.toNat w.size)).size := ByteArray.size_append
  have he := Sa.endB_le (s ++ w.extract 0 (min keep.toNat w.size))
  unfold selvedgeref17_Crash.f
  rw [if_pos (by omega), rread_is _ (by omega) k (by omega), Option.bind_some]
  dsimp only
  rw [if_pos ⟨by omega, by omega⟩, Int.toNat_natCast, Sa.endB_cut]
  rfl
theorem rappend_is (s w : ByteArray) (fu : Int) (off : Bool) (t : ByteArray) (h1 : s.size + w.size ≤ 1000000000) (h2 : t.size ≤ 1000000000) (h3 : -9223372036854775808 ≤ fu ∧ fu ≤ 9223372036854775807) (k : Nat) : selvedgeref17_Append.f (k + 1) s w fu off t = some (Sa.appB s w fu off (fraB t).1 (fraB t).2) := by
  have hz := fraB_size t
  generalize hf : fraB t = q at hz
  obtain ⟨f, e⟩ := q
  dsimp only at hz ⊢
  have hx : ∀ n, (f.extract 0 n).size ≤ f.size := fun n => by rw [ByteArray.size_extract]; omega
  unfold selvedgeref17_Append.f Sa.appB
  rw [rframe_is t h2, hf, Option.bind_some]
  dsimp only
  by_cases c1 : e = 0
  · rw [if_pos c1, if_neg (show ¬ e ≠ 0 by omega)]
    by_cases c2 : off = true
    · rw [if_pos c2, if_pos c2]
    · have w1 : wrap64 (wrap64 ((s.size : Int) + (w.size : Int)) + (f.size : Int)) = (s.size : Int) + (w.size : Int) + (f.size : Int) := by
        rw [wrap64_in ((s.size : Int) + (w.size : Int)) (by omega), wrap64_in _ (by omega)]
      rw [if_neg c2, if_neg c2, w1]
      by_cases c3 : 1048576 < s.size + w.size + f.size
      · rw [if_pos (by omega), if_pos c3]
      · rw [if_neg (by omega), if_neg c3]
        have c2' : off = false := by cases off with
          | true => exact absurd rfl c2
          | false => rfl
        by_cases c4 : 0 ≤ fu
        · rw [if_pos (show fu ≥ 0 from c4), selvedgeref17_Append.j0]
          by_cases c5 : fu < (f.size : Int)
          · have h0 := hx fu.toNat
            rw [if_pos (decide_eq_true c5), if_pos c4, if_pos (by omega), if_pos (by omega), if_pos ⟨c4, c5⟩]
          · rw [if_neg (by simpa using c5), if_pos (by omega), if_pos (show fu ≥ 0 from c4), if_neg (fun h => c5 h.2), if_pos c4, wrap64_in _ (by omega), c2']
        · rw [if_neg (show ¬ fu ≥ 0 from c4), selvedgeref17_Append.j0, if_neg (by decide), if_pos (by omega), if_neg (show ¬ fu ≥ 0 from c4), if_neg (fun h => c4 h.1), if_neg c4, c2']
  · rw [if_neg c1, if_pos c1]
theorem PaperActs : selvedgelaw17_PaperActs.Pure := by
  intro x hG hB
  have hg := hG.1
  have hs : x.f0.f0.size + x.f0.f1.size + x.f1.size ≤ 1048576 := by
    unfold B69 B60 at hB
    simp only at hB
    omega
  have hfu := wfI (n := x.f0.f2) (by unfold G60 at hg; exact hg.2.2.1)
  obtain ⟨k2, s2⟩ := same_ev (recsB (x.f0.f0 ++ x.f0.f1)) (by have := recs_len (x.f0.f0 ++ x.f0.f1); rw [ByteArray.size_append] at this; omega)
  obtain ⟨k, hk3, hk4⟩ : ∃ k, 5000000 ≤ k ∧ k2 ≤ k + 1 := ⟨max 5000000 k2, by omega, by omega⟩
  have s3 : selvedgeref01_Same.f (k + 1) (recsB (x.f0.f0 ++ x.f0.f1)) (recsB (x.f0.f0 ++ x.f0.f1)) = some true := s2 (k + 1) hk4
  refine ⟨k + 1 + 1, ?_⟩
  have harm : mx x.f3 (-1) = if x.f3 < 0 then -1 else x.f3 := by unfold mx; (repeat' split) <;> omega
  have hj : ∀ z : Bool, selvedgelaw17_PaperActs.j0 (k + 1 + 1) x.f1 x.f2 x.f3 true z x.f0.f0 x.f0.f1 x.f0.f2 x.f0.f3 = some true := by
    intro z
    rw [selvedgelaw17_PaperActs.j0]
    cases z with
    | true => rw [if_pos rfl]
    | false =>
      rw [if_neg (by decide), append_is _ _ _ _ _ (by omega) (by omega) (by omega), Option.bind_some, rappend_is _ _ _ _ _ (by omega) (by omega) hfu k, Option.bind_some, sync_is _ _ _ _ (by omega), Option.bind_some, rsync_is _ _ _ _ (by omega), Option.bind_some, records_is _ _ _ _ (by omega) (k + 1) (by omega), Option.bind_some, rrecords_is _ _ _ _ (by omega) (k + 1) (by omega), Option.bind_some, s3, Option.bind_some]
      rw [if_pos rfl, if_pos rfl, if_pos (by simp), if_pos rfl, if_pos (by simp), if_pos rfl, crash_is _ _ _ _ _ (by omega) (k + 1) (by omega), Option.bind_some, rcrash_is _ _ _ _ _ (by omega) (k + 1) (by omega), Option.bind_some, if_pos (by simp)]
      unfold paper_Arm.f selvedgeref17_Arm.f
      rw [harm, Option.bind_some]
      by_cases c : x.f3 < 0
      · rw [if_pos c, if_pos c, Option.bind_some]; simp
      · rw [if_neg c, if_neg c, Option.bind_some]; simp
  unfold selvedgelaw17_PaperActs.f
  rw [shown_is (k + 1 + 1) (by omega), Option.bind_some]
  by_cases c1 : (x.f0.f0.size : Int) > 2097152
  · rw [if_pos c1]; exact hj true
  · rw [if_neg c1]; exact hj _

end Go.Proofs.Ytiknkkkfkifahaa.Pure
