/- Proved: the pure half of the law PaperTorn of chapter 17 (what the walked program computes is 'true'). Conditions: those of its row, no other. -/
import Derived.Test.YtiknkkkfkifahaaArgPaperTorn
import Derived.Test.YtiknkkkfkifahaaEk
import Derived.Test.YtiknkkkfkifahaaTk
import Derived.IntWalk
import Derived.KernelRfl
namespace Go.Proofs.Ytiknkkkfkifahaa.Pure
open Go.IntWalk Go.RowKit Go.Proofs.Ytiknkkkfkifahaa.PPaperTorn Go.Proofs.YtiknkkkfkifahaaW.PrintWords Go.Proofs.YtiknkkkfkifahaaW.PrintLast Go.Proofs.Ytiknkkkfkifahaa.Ek
open Go.Proofs.Ytiknkkkfkifahaa.Sa (valN valN_64 tkN tkT tkT_sizes bt_nn bt_lt ba_nil ba_toList one frm frm_size rds frs frl recsB restB endB Recs sum4)
open Go.Proofs.Ytiknkkkfkifahaa.Sm (sumB sumB_size)
set_option linter.unusedSimpArgs false
set_option linter.unusedVariables false

theorem succ_ok {i n : Nat} (h : i < n) (hn : n ≤ 1000000000000000) : wrap64 ((i : Int) + 1) = ((i + 1 : Nat) : Int) := by rw [wrap64_in _ (by omega)]; omega
theorem wfI {n : Int} (h : (Lit.int .i64 n).wf = true) : -9223372036854775808 ≤ n ∧ n ≤ 9223372036854775807 := by
  simp [Lit.wf, IntKind.min, IntKind.max, IntKind.signed, IntKind.bits] at h
  omega
theorem wb (s : ByteArray) (i : Int) : wrap64 (bt s i) = bt s i := by have := bt_range s i; exact wrap64_in _ (by omega)
theorem rds' {l : List ByteArray} {i : Nat} (h : i < l.length) : rdOf ByteArray.empty l (i : Int) = l[i] := by
  unfold rdOf
  rw [Int.toNat_natCast, List.getD_eq_getElem?_getD, List.getElem?_eq_getElem h]
  rfl
theorem or256 (a b : Nat) (ha : a < 72057594037927936) (hb : b < 256) : bits .or .u64 (IntKind.u64.wrap ((a : Int) * 256)) (IntKind.u64.wrap (b : Int)) = ((a * 256 + b : Nat) : Int) := by
  rw [IntKind.wrap_u64, IntKind.wrap_u64, Int.emod_eq_of_lt (by omega) (by omega), Int.emod_eq_of_lt (by omega) (by omega)]
  rw [bits_join .u64 64 (by decide) wraps_u64 8 ((a : Int) * 256) b (by omega) (by rw [show (2 : Int) ^ 8 = 256 by decide]; omega) (by rw [show (2 : Int) ^ 64 = 18446744073709551616 by decide]; omega) (by omega) (by rw [show (2 : Int) ^ 8 = 256 by decide]; omega) (by rw [show (2 : Int) ^ 64 = 18446744073709551616 by decide]; omega)]
  omega
theorem valN_56 (s : ByteArray) {k : Nat} (h : k < 8) : valN s k < 72057594037927936 := by
  have h1 : (256 : Nat) ^ k ≤ 256 ^ 7 := Nat.pow_le_pow_right (by decide) (by omega)
  exact Nat.lt_of_lt_of_le (Sa.valN_lt s k) (Nat.le_trans h1 (by decide))
theorem valN_next (s : ByteArray) (k : Nat) : valN s (k + 1) = valN s k * 256 + (bt s ((k + 1 : Nat) : Int)).toNat := rfl
theorem num_l (s : ByteArray) (n : Nat) (hn : n ≤ 8) (hs : n < s.size) (hS : s.size ≤ 1000000000000000) : ∀ (m i k : Nat), i + m = n → digits_TakeNum.l0 (m + 1 + k) s (n : Int) ((valN s i : Nat) : Int) ((i + 1 : Nat) : Int) = some (((valN s n : Nat) : Int), s.extract (n + 1) s.size, 0)
  | 0, i, k, h => by
    obtain rfl : i = n := by omega
    rw [show 0 + 1 + k = k + 1 by omega, digits_TakeNum.l0, if_neg (by omega), succ_ok (n := s.size) (by omega) hS, if_pos (by omega), if_pos (by omega), Int.toNat_natCast]
  | m + 1, i, k, h => by
    have ih := num_l s n hn hs hS m (i + 1) k (by omega)
    have e := or256 (valN s i) (bt s ((i + 1 : Nat) : Int)).toNat (valN_56 s (by omega)) (bt_lt _ _)
    rw [bt_nn, ← valN_next] at e
    rw [show m + 1 + 1 + k = m + 1 + k + 1 by omega, digits_TakeNum.l0, if_pos (by omega), if_pos (by omega), if_pos (by omega), e, succ_ok (i := i + 1) (n := s.size) (by omega) hS]
    exact ih
theorem num_is (s : ByteArray) (hS : s.size ≤ 1000000000000000) (k : Nat) (hk : 12 ≤ k) : digits_TakeNum.f k s = some (((tkN s).1 : Int), (tkN s).2.1, (tkN s).2.2) := by
  have hb := bt_range s 0
  have hn := bt_nn s 0
  unfold digits_TakeNum.f tkN
  by_cases c1 : s.size = 0
  · rw [if_pos (ba_nil.2 c1), if_pos c1]; rfl
  · rw [if_neg (fun h => c1 (ba_nil.1 h)), if_neg c1, if_pos (by omega), wb]
    by_cases c2 : 8 < (bt s 0).toNat
    · rw [if_pos (by omega), if_pos c2]; rfl
    · rw [if_neg (by omega), if_neg c2]
      by_cases c3 : s.size ≤ (bt s 0).toNat
      · rw [if_pos (by omega), if_pos c3]; rfl
      · rw [if_neg (by omega), if_neg c3]
        have key : digits_TakeNum.j0 k s (bt s 0) = some (((valN s (bt s 0).toNat : Nat) : Int), s.extract ((bt s 0).toNat + 1) s.size, 0) := by
          obtain ⟨k', rfl⟩ : ∃ k', k = ((bt s 0).toNat + 1 + k') + 1 := ⟨k - (bt s 0).toNat - 2, by omega⟩
          have := num_l s (bt s 0).toNat (by omega) (by omega) hS (bt s 0).toNat 0 k' (by omega)
          rw [hn] at this
          rw [digits_TakeNum.j0]
          exact this
        by_cases c4 : 0 < (bt s 0).toNat
        · rw [if_pos (by omega), if_pos (by omega)]
          by_cases c5 : bt s 1 = 0
          · rw [if_pos c5, if_pos ⟨c4, c5⟩]; rfl
          · rw [if_neg c5, if_neg (fun h => c5 h.2)]; exact key
        · rw [if_neg (by omega), if_neg (fun h => c4 h.1)]; exact key
theorem u64n (n : Nat) (h : n < 18446744073709551616) : IntKind.u64.wrap (n : Int) = n := by rw [IntKind.wrap_u64]; omega
theorem tkN_sizes (s : ByteArray) : (tkN s).2.1.size ≤ s.size := by
  unfold tkN
  repeat' split
  all_goals first | exact Nat.zero_le _ | (dsimp only; rw [ByteArray.size_extract]; omega)
theorem text_is (s : ByteArray) (hS : s.size ≤ 1000000000000000) (k : Nat) (hk : 12 ≤ k) : digits_TakeText.f k s 65536 = some (tkT s) := by
  have hz := tkN_sizes s
  unfold digits_TakeText.f tkT
  rw [num_is s hS k hk, Option.bind_some]
  dsimp only
  by_cases c1 : (tkN s).2.2 = 0
  · rw [if_pos c1, if_pos c1, if_neg (by omega)]
    obtain ⟨k', rfl⟩ : ∃ k', k = k' + 1 := ⟨k - 1, by omega⟩
    have e1 : IntKind.u64.wrap 65536 = 65536 := by rw [IntKind.wrap_u64]; rfl
    rw [digits_TakeText.j0, e1, u64n _ (by omega)]
    by_cases c2 : 65536 < (tkN s).1
    · rw [if_pos (by simp; omega), if_pos c2]
    · rw [if_neg (by simp; omega), if_neg c2]
      by_cases c3 : (tkN s).2.1.size < (tkN s).1
      · rw [if_pos (by omega), if_pos c3]
      · rw [if_neg (by omega), if_neg c3, if_pos (by omega), if_pos (by omega), Int.toNat_natCast]
  · rw [if_neg c1, if_neg c1]
theorem toL4 (t u : ByteArray) : ((sumB t).extract 0 4).toList = (u.extract 0 4).toList ↔ (sumB t).extract 0 4 = u.extract 0 4 := ba_toList
theorem frsO_is (s : ByteArray) (tk : ByteArray → Option (ByteArray × ByteArray × Int)) (hS : s.size ≤ 140737488351232) (h : ∀ x : ByteArray, x.size ≤ s.size → tk x = some (tkT x)) : ∀ (m i : Nat), i ≤ s.size → s.size - i < m → Sa.frsO sumB tk s m i = some (frl s.size m (s.extract i s.size))
  | 0, i, hi, hm => by omega
  | m + 1, i, hi, hm => by
    have hsz : (s.extract i s.size).size = s.size - i := by rw [ByteArray.size_extract]; omega
    rw [Sa.frsO, frl]
    by_cases c1 : i < s.size
    · rw [if_pos c1, h _ (by omega), Option.bind_some]
      obtain ⟨z1, z2⟩ := tkT_sizes (s.extract i s.size)
      cases h1 : one (s.extract i s.size) with
      | none =>
        dsimp only
        unfold one at h1
        by_cases c2 : (tkT (s.extract i s.size)).2.2 = 0
        · rw [if_pos c2]
          by_cases c3 : (tkT (s.extract i s.size)).2.1.size < 4
          · rw [if_pos c3]
          · have ht := (Sa.tkT_ok c2).1
            have hz := congrArg ByteArray.size ht
            unfold Sa.textB at hz
            rw [ByteArray.size_append, ByteArray.size_append, Sa.numB_size] at hz
            rw [if_neg c3, if_pos ⟨by omega, by omega, by omega⟩, if_neg (fun e => ?_)]
            rw [if_pos ⟨c2, by omega, (toL4 _ _).1 e⟩] at h1
            cases h1
        · rw [if_neg c2]
      | some p =>
        obtain ⟨t, r⟩ := p
        dsimp only
        have ho := Sa.one_ok h1
        have hz := congrArg ByteArray.size ho.1
        rw [ByteArray.size_append, frm_size, hsz] at hz
        unfold one at h1
        split at h1
        · rename_i c
          obtain ⟨c2, c3, c4⟩ := c
          obtain ⟨e1, e2⟩ := Prod.mk.inj (Option.some.inj h1)
          have hr : r.size = (tkT (s.extract i s.size)).2.1.size - 4 := by rw [← e2, ByteArray.size_extract]; omega
          rw [if_pos c2, if_neg (by omega), if_pos ⟨by omega, by omega, by omega⟩, if_pos ((toL4 _ _).2 c4), e1]
          have ep : s.size - (tkT (s.extract i s.size)).2.1.size + 4 = s.size - r.size := by omega
          have er : s.extract (s.size - r.size) s.size = r := Sa.tail_of hi ho.1
          rw [ep, frsO_is s tk hS h m (s.size - r.size) (by omega) (by omega), er]
          rfl
        · cases h1
    · have e : s.extract i s.size = ByteArray.empty := ByteArray.extract_eq_empty_iff.2 (by omega)
      rw [if_neg c1, e, Sa.one_empty]
theorem frl_len (n : Nat) : ∀ (m : Nat) (s : ByteArray), (frl n m s).length ≤ m
  | 0, s => Nat.zero_le _
  | m + 1, s => by
    rw [frl]
    cases one s with
    | none => exact Nat.zero_le _
    | some p => have := frl_len n m p.2; simp only [List.length_cons]; omega
theorem frl_fix (n : Nat) : ∀ (m : Nat) (s : ByteArray), s.size ≤ m → frl n m s = frl n s.size s
  | m, s, h => by
    have key : ∀ (m1 m2 : Nat) (s : ByteArray), s.size ≤ m1 → s.size ≤ m2 → frl n m1 s = frl n m2 s := by
      intro m1
      induction m1 with
      | zero =>
        intro m2 s h1 h2
        have e : s = ByteArray.empty := ByteArray.size_eq_zero_iff.1 (by omega)
        cases m2 with
        | zero => rfl
        | succ m2 => rw [frl, frl, e, Sa.one_empty]
      | succ m1 ih =>
        intro m2 s h1 h2
        cases m2 with
        | zero =>
          have e : s = ByteArray.empty := ByteArray.size_eq_zero_iff.1 (by omega)
          rw [frl, frl, e, Sa.one_empty]
        | succ m2 =>
          rw [frl, frl]
          cases h3 : one s with
          | none => rfl
          | some p =>
            obtain ⟨t, r⟩ := p
            have hz := congrArg ByteArray.size (Sa.one_ok h3).1
            rw [ByteArray.size_append, frm_size] at hz
            dsimp only
            rw [ih m2 r (by omega) (by omega)]
    exact key m s.size s h (Nat.le_refl _)
theorem read_is (s : ByteArray) (hS : s.size ≤ 1000000000) (k : Nat) (hk : s.size + 20 ≤ k) : paper_Read.f k s = some (recsB s, (endB s : Int)) := by
  unfold paper_Read.f
  rw [if_pos (by omega), frsO_is s _ (by omega) (fun x hx => text_is x (by omega) k (by omega)) k 0 (Nat.zero_le _) (by omega), ByteArray.extract_zero_size, frl_fix s.size k s (by omega), Option.bind_some]
  have hl := frl_len s.size s.size s
  rw [if_pos (by omega), Sa.frl_recs]
  have h1 := Sa.frl_last s.size s.size s 0
  unfold Sa.lastE
  rw [h1]
  unfold recsB endB restB
  by_cases h : (rds s.size s).1 = []
  · rw [if_pos h]
    have e := (Sa.recs_ok s).1
    unfold recsB restB at e
    rw [h] at e
    have hz := congrArg ByteArray.size e
    rw [frs, ByteArray.empty_append] at hz
    rw [h]
    congr 3
    omega
  · rw [if_neg h]
theorem read_ev (s : ByteArray) (hS : s.size ≤ 1000000000) : Evk (fun k => paper_Read.f k s) (recsB s, (endB s : Int)) := ⟨s.size + 20, fun k hk => read_is s hS k hk⟩
theorem same_l (l : List ByteArray) (hl : l.length ≤ 1000000000) : ∀ (m i : Nat), i + m = l.length → Evk (fun k => selvedgeref01_Same.l0 k l l (i : Int)) true
  | 0, i, hi => (Evk.ret _).step fun k => by rw [selvedgeref01_Same.l0, if_neg (by omega)]
  | m + 1, i, hi => by
    have hlt : i < l.length := by omega
    refine (same_l l hl m (i + 1) (by omega)).step fun k => ?_
    rw [selvedgeref01_Same.l0, if_pos (by omega), if_pos (by omega), if_pos (by omega), if_pos rfl, succ_ok hlt (by omega)]
theorem same_ev (l : List ByteArray) (hl : l.length ≤ 1000000000) : Evk (fun k => selvedgeref01_Same.f k l l) true :=
  (same_l l hl l.length 0 (by omega)).of_eq fun k => by unfold selvedgeref01_Same.f; rw [if_pos rfl]; rfl
theorem recs_len (s : ByteArray) : (recsB s).length ≤ s.size := by
  have e := (Sa.recs_ok s).1
  have key : ∀ l : List ByteArray, l.length ≤ (frs l).size := by
    intro l
    induction l with
    | nil => exact Nat.zero_le _
    | cons t l ih => rw [frs, ByteArray.size_append, frm_size, List.length_cons]; omega
  have h1 := key (recsB s)
  have := congrArg ByteArray.size e
  rw [ByteArray.size_append] at this
  omega
def fraB (t : ByteArray) : ByteArray × Int := if 65536 < t.size then (⟨#[]⟩, 4) else (frm t, 0)
theorem frame_is (t : ByteArray) (hS : t.size ≤ 1000000000) : paper_Frame.f t = some (fraB t) := by
  unfold paper_Frame.f fraB digits_Text.f sha_Sum.f
  by_cases c : 65536 < t.size
  · rw [if_pos (by omega), if_pos c]
  · have h4 := sum4 t
    have hs := sumB_size t
    have ht := Sa.textB_le t
    rw [if_neg (by omega), if_neg c, if_pos (by omega), Option.bind_some, if_pos (by omega), Option.bind_some, if_pos (by decide), if_pos (by omega), if_pos (by rw [h4]; omega)]
    rfl
theorem fraB_size (t : ByteArray) : (fraB t).1.size ≤ 70000 := by
  unfold fraB
  split
  · exact Nat.zero_le _
  · rw [frm_size]; have := Sa.nl_le 8 t.size; omega
theorem crash_is (s w : ByteArray) (fu : Int) (off : Bool) (keep : Int) (hS : s.size + w.size ≤ 1000000000) (k : Nat) (hk : s.size + w.size + 20 ≤ k) :
    paper_Crash.f k s w fu off keep = some (frs (recsB (s ++ w.extract 0 (min keep.toNat w.size))), (⟨#[]⟩ : ByteArray), -1, false) := by
  have e1 : mn (mx keep 0) (w.size : Int) = ((min keep.toNat w.size : Nat) : Int) := by unfold mn mx; (repeat' split) <;> omega
  have hz : (s ++ w.extract 0 (min keep.toNat w.size)).size ≤ s.size + w.size := by rw [ByteArray.size_append, ByteArray.size_extract]; omega
  unfold paper_Crash.f
  rw [e1, if_pos (by omega), if_pos (by omega), Int.toNat_natCast, if_pos (by rw [ByteArray.size_extract]; omega), read_is _ (by omega) k (by omega), Option.bind_some]
  have he := Sa.endB_le (s ++ w.extract 0 (min keep.toNat w.size))
  dsimp only
  rw [if_pos (by omega), if_pos (by omega), Int.toNat_natCast, Sa.endB_cut]
theorem records_is (s w : ByteArray) (fu : Int) (off : Bool) (hS : s.size + w.size ≤ 1000000000) (k : Nat) (hk : s.size + w.size + 20 ≤ k) : paper_Records.f k s w fu off = some (recsB (s ++ w)) := by
  have hz : (s ++ w).size = s.size + w.size := ByteArray.size_append
  unfold paper_Records.f
  rw [if_pos (by omega), read_is _ (by omega) k (by omega), Option.bind_some]
theorem append_is (s w : ByteArray) (fu : Int) (off : Bool) (t : ByteArray) (h1 : s.size + w.size ≤ 1000000000) (h2 : t.size ≤ 1000000000) (h3 : fu ≤ 9223372036854775807) : paper_Append.f s w fu off t = some (Sa.appB s w fu off (fraB t).1 (fraB t).2) := by
  have := fraB_size t
  unfold paper_Append.f
  rw [frame_is t h2, Option.bind_some, if_pos ⟨by omega, by omega, h3⟩]
abbrev abB : ByteArray := ⟨#[97, 98]⟩
theorem nlab : Sa.nl 8 2 = 1 := by decide
theorem recs_one (t : ByteArray) (h : t.size ≤ 65536) : recsB (frm t) = [t] := by
  have := (Sa.recs_frs [t] (fun x hx => by rw [List.mem_singleton.1 hx]; exact h)).1
  rw [frs, frs, ByteArray.append_empty] at this
  exact this
theorem recs_short (t : ByteArray) (h : t.size ≤ 65536) (n : Nat) (hn : n < (frm t).size) : recsB ((frm t).extract 0 n) = [] := by
  have key : one ((frm t).extract 0 n) = none := by
    cases h1 : one ((frm t).extract 0 n) with
    | none => rfl
    | some p =>
      obtain ⟨u, r⟩ := p
      obtain ⟨e, hu⟩ := Sa.one_ok h1
      have e2 : frm t = frm u ++ (r ++ (frm t).extract n (frm t).size) := by
        rw [← ByteArray.append_assoc, ← e, Sa.cut_join (by omega)]
      have h2 := Sa.one_frm u (r ++ (frm t).extract n (frm t).size) hu
      have h3 := Sa.one_frm t ByteArray.empty h
      rw [ByteArray.append_empty, e2, h2] at h3
      have h4 := congrArg ByteArray.size (Prod.mk.inj (Option.some.inj h3)).2
      rw [ByteArray.size_append, ByteArray.size_extract, ByteArray.size_empty] at h4
      omega
  exact (Sa.recs_is (l := []) (by rw [frs, ByteArray.empty_append]) (fun x hx => by simp at hx) key).1
theorem shown_is (k : Nat) (hk : 1000 ≤ k) : selvedgelaw17_shown.f k = some true := by
  have hz : (frm abB).size = 8 := by rw [frm_size]; show 2 + Sa.nl 8 2 + 5 = 8; rw [nlab]
  have hf : fraB abB = (frm abB, 0) := rfl
  have ha : Sa.appB (⟨#[]⟩ : ByteArray) (⟨#[]⟩ : ByteArray) (-1) false (frm abB) 0 = ((⟨#[]⟩ : ByteArray), frm abB, -1, false, 0) := by
    unfold Sa.appB
    rw [if_neg (by simp), if_neg (by simp), if_neg (by rw [hz]; show ¬ 1048576 < 0 + 0 + 8; decide), if_neg (by omega), if_neg (by decide)]
    congr 2
  have c7 := crash_is (⟨#[]⟩ : ByteArray) (frm abB) (-1) false 7 (by rw [hz]; decide) k (by rw [hz]; show 0 + 8 + 20 ≤ k; omega)
  have c8 := crash_is (⟨#[]⟩ : ByteArray) (frm abB) (-1) false 8 (by rw [hz]; decide) k (by rw [hz]; show 0 + 8 + 20 ≤ k; omega)
  have e7 : (⟨#[]⟩ : ByteArray) ++ (frm abB).extract 0 (min (7 : Int).toNat (frm abB).size) = (frm abB).extract 0 7 := by rw [hz]; exact ByteArray.empty_append
  have e8 : (⟨#[]⟩ : ByteArray) ++ (frm abB).extract 0 (min (8 : Int).toNat (frm abB).size) = frm abB := by
    rw [hz]
    show ByteArray.empty ++ (frm abB).extract 0 8 = _
    rw [ByteArray.empty_append, ← hz, ByteArray.extract_zero_size]
  rw [e7, recs_short abB (by decide) 7 (by omega)] at c7
  rw [e8, recs_one abB (by decide)] at c8
  have r7 := records_is (frs []) (⟨#[]⟩ : ByteArray) (-1) false (by decide) k (by show 0 + 0 + 20 ≤ k; omega)
  have r8 := records_is (frs [abB]) (⟨#[]⟩ : ByteArray) (-1) false (by rw [frs, frs, ByteArray.append_empty, hz]; decide) k (by rw [frs, frs, ByteArray.append_empty, hz]; show 8 + 0 + 20 ≤ k; omega)
  have q7 : recsB (frs [] ++ (⟨#[]⟩ : ByteArray)) = [] := by
    show recsB (frs [] ++ ByteArray.empty) = []
    rw [ByteArray.append_empty]; exact (Sa.recs_frs [] (fun x hx => by simp at hx)).1
  have q8 : recsB (frs [abB] ++ (⟨#[]⟩ : ByteArray)) = [abB] := by
    show recsB (frs [abB] ++ ByteArray.empty) = _
    rw [ByteArray.append_empty]; exact (Sa.recs_frs [abB] (fun x hx => by rw [List.mem_singleton.1 hx]; decide)).1
  rw [q7] at r7
  rw [q8] at r8
  unfold selvedgelaw17_shown.f
  rw [append_is _ _ _ _ _ (by decide) (by decide) (by decide), Option.bind_some, hf]
  dsimp only
  rw [ha]
  dsimp only
  rw [c7, Option.bind_some]
  dsimp only
  rw [r7, Option.bind_some, c8, Option.bind_some]
  dsimp only
  rw [r8, Option.bind_some, if_pos rfl, if_pos (by rw [hz]; rfl), if_pos (by simp), if_pos (by simp), if_pos (by simp)]
  show some (abB.toList == [97, 98]) = some true
  rw [Lib.toList_data]
  rfl
theorem one_short (t : ByteArray) (h : t.size ≤ 65536) (n : Nat) (hn : n < (frm t).size) : one ((frm t).extract 0 n) = none := by
  cases h1 : one ((frm t).extract 0 n) with
  | none => rfl
  | some p =>
    obtain ⟨u, r⟩ := p
    obtain ⟨e, hu⟩ := Sa.one_ok h1
    have e2 : frm t = frm u ++ (r ++ (frm t).extract n (frm t).size) := by
      rw [← ByteArray.append_assoc, ← e, Sa.cut_join (by omega)]
    have h2 := Sa.one_frm u (r ++ (frm t).extract n (frm t).size) hu
    have h3 := Sa.one_frm t ByteArray.empty h
    rw [ByteArray.append_empty, e2, h2] at h3
    have h4 := congrArg ByteArray.size (Prod.mk.inj (Option.some.inj h3)).2
    rw [ByteArray.size_append, ByteArray.size_extract, ByteArray.size_empty] at h4
    omega
/-- how many frames end at c at most -/
def cnt : List ByteArray → Nat → Nat
  | [], _ => 0
  | t :: l, c => if (frm t).size ≤ c then cnt l (c - (frm t).size) + 1 else 0
theorem cnt_le : ∀ (l : List ByteArray) (c : Nat), cnt l c ≤ l.length
  | [], _ => Nat.le_refl _
  | t :: l, c => by rw [cnt]; split <;> have := cnt_le l (c - (frm t).size) <;> simp only [List.length_cons] <;> omega
theorem cut_recs : ∀ (l : List ByteArray) (c : Nat), Recs l → c ≤ (frs l).size → ∃ r, (frs l).extract 0 c = frs (l.take (cnt l c)) ++ r ∧ one r = none
  | [], c, _, hc => by
    refine ⟨ByteArray.empty, ?_, Sa.one_empty⟩
    rw [frs, cnt, List.take_nil, frs, ByteArray.append_empty]
    exact ByteArray.extract_eq_empty_iff.2 (by rw [ByteArray.size_empty]; omega)
  | t :: l, c, hl, hc => by
    rw [frs, ByteArray.size_append] at hc
    rw [cnt, frs]
    by_cases h : (frm t).size ≤ c
    · obtain ⟨r, e, hr⟩ := cut_recs l (c - (frm t).size) (fun x hx => hl x (by simp [hx])) (by omega)
      refine ⟨r, ?_, hr⟩
      rw [if_pos h, List.take_succ_cons, frs, ByteArray.append_assoc, ← e]
      exact Sa.ext_big h
    · refine ⟨(frm t).extract 0 c, ?_, one_short t (hl t (by simp)) c (by omega)⟩
      rw [if_neg h, List.take_zero, frs, ByteArray.empty_append]
      exact Sa.ext_small (by omega)
theorem frs_sz : ∀ (l : List ByteArray) (i : Nat), i + 1 ≤ l.length → (frs (l.take (i + 1))).size = (frs (l.take i)).size + (frm (l.getD i ByteArray.empty)).size
  | [], i, h => by simp at h
  | t :: l, 0, h => by
    rw [List.take_succ_cons, List.take_zero, List.take_zero, frs]
    simp only [frs]
    rw [ByteArray.append_empty, ByteArray.size_empty, Nat.zero_add]
    rfl
  | t :: l, i + 1, h => by
    rw [List.take_succ_cons, List.take_succ_cons, frs, frs, ByteArray.size_append, ByteArray.size_append, frs_sz l i (by simp at h; omega)]
    simp
    omega
/-- where the frames end -/
def endsL (l : List ByteArray) : List Int := (List.range l.length).map fun i => (((frs (l.take (i + 1))).size : Nat) : Int)
theorem endsL_len (l : List ByteArray) : (endsL l).length = l.length := by simp [endsL]
theorem endsL_get (l : List ByteArray) (i : Nat) (h : i < l.length) : rd (endsL l) (i : Int) = (((frs (l.take (i + 1))).size : Nat) : Int) := by
  unfold rd endsL
  rw [Int.toNat_natCast, List.getD_eq_getElem?_getD, List.getElem?_map, List.getElem?_range h]
  rfl
theorem endsL_snoc (l : List ByteArray) (t : ByteArray) : endsL (l ++ [t]) = endsL l ++ [((frs l ++ frm t).size : Int)] := by
  unfold endsL
  rw [List.length_append, List.length_singleton, List.range_succ, List.map_append]
  congr 1
  · apply List.map_congr_left
    intro i hi
    rw [List.mem_range] at hi
    rw [List.take_append_of_le_length (by omega)]
  · simp only [List.map_cons, List.map_nil]
    rw [List.take_of_length_le (by simp), Sa.frs_app, frs, frs, ByteArray.append_empty]
theorem cnt_iff : ∀ (l : List ByteArray) (c i : Nat), i < l.length → ((frs (l.take (i + 1))).size ≤ c ↔ i < cnt l c)
  | [], c, i, h => by simp at h
  | t :: l, c, 0, h => by
    rw [List.take_succ_cons, List.take_zero, frs, frs, ByteArray.append_empty, cnt]
    split <;> omega
  | t :: l, c, i + 1, h => by
    have ih := cnt_iff l (c - (frm t).size) i (by simpa using h)
    rw [List.take_succ_cons, frs, ByteArray.size_append, cnt]
    split
    · rename_i h1
      rw [Nat.succ_lt_succ_iff, ← ih]
      omega
    · omega
theorem beg_is (a b : List ByteArray) (h : a = b.take a.length) (hl : b.length ≤ 1000000000) : Evk (fun k => selvedgelaw17_begins.f k a b) true := by
  have h1 : a.length ≤ b.length := by
    have := congrArg List.length h
    rw [List.length_take] at this
    omega
  refine ((same_ev a (by omega)).bind (g := fun _ t => some t) (Evk.ret _)).of_eq fun k => ?_
  unfold selvedgelaw17_begins.f
  rw [if_pos (by omega), if_pos (by omega), Int.toNat_natCast, ← h]
theorem frs_bound : ∀ (L : List ByteArray), Recs L → (frs L).size ≤ L.length * 70000
  | [], _ => Nat.zero_le _
  | t :: L, h => by
    have h1 := frs_bound L (fun x hx => h x (by simp [hx]))
    have h2 := h t (by simp)
    have h3 := Sa.nl_le 8 t.size
    rw [frs, ByteArray.size_append, frm_size, List.length_cons]
    omega
theorem torn_l1 (l0 L : List ByteArray) (c : Nat) (hL : Recs L) (hpre : L = l0.take L.length) (hL20 : L.length ≤ 20) (hl : l0.length ≤ 100000000) (hc : c ≤ (frs L).size) : ∀ (m i : Nat), i + m = L.length →
    Evk (fun k => selvedgelaw17_PaperTorn.l1 k l0 (c : Int) true (frs L) (endsL L) ((min i (cnt L c) : Nat) : Int) (i : Int)) true
  | 0, i, hi => by
    have hz := frs_bound L hL
    have hcn := cnt_le L c
    obtain ⟨r, e, hr⟩ := cut_recs L c hL hc
    have hR : Recs (L.take (cnt L c)) := fun x hx => hL x (List.mem_of_mem_take hx)
    obtain ⟨q1, q2⟩ := Sa.recs_is e hR hr
    have hez : endB ((frs L).extract 0 c) = (frs (L.take (cnt L c))).size := by rw [Sa.endB_is, q1]
    have hsz : ((frs L).extract 0 c).size ≤ 1000000000 := by rw [ByteArray.size_extract]; omega
    have hlen : (L.take (cnt L c)).length = cnt L c := by rw [List.length_take]; omega
    obtain ⟨kb, hb⟩ := beg_is (L.take (cnt L c)) l0 (by
      have h1 := congrArg (List.take (cnt L c)) hpre
      rw [List.take_take, show min (cnt L c) L.length = cnt L c by omega] at h1
      rw [hlen]
      exact h1) (by omega)
    rw [show min i (cnt L c) = cnt L c by omega]
    have hel := endsL_len L
    refine ⟨max kb (((frs L).extract 0 c).size + 20) + 1, fun k hk => ?_⟩
    obtain ⟨k', rfl⟩ : ∃ k', k = k' + 1 := ⟨k - 1, by omega⟩
    have hbk : selvedgelaw17_begins.f k' (L.take (cnt L c)) l0 = some true := hb k' (by omega)
    show selvedgelaw17_PaperTorn.l1 (k' + 1) l0 (c : Int) true (frs L) (endsL L) ((cnt L c : Nat) : Int) (i : Int) = some true
    rw [selvedgelaw17_PaperTorn.l1, if_neg (by omega), if_pos (by omega), if_pos (by omega), Int.toNat_natCast, read_is _ hsz k' (by omega), q1, hez, Option.bind_some]
    dsimp only
    rw [if_pos rfl, hlen, if_pos rfl, hbk, Option.bind_some]
    by_cases h0 : cnt L c = 0
    · rw [if_pos (by omega), if_pos (by rw [h0, List.take_zero, frs, ByteArray.size_empty]; rfl)]
    · have w1 : wrap64 (((cnt L c : Nat) : Int) - 1) = ((cnt L c - 1 : Nat) : Int) := by rw [wrap64_in _ (by omega)]; omega
      have g1 := endsL_get L (cnt L c - 1) (by omega)
      rw [show cnt L c - 1 + 1 = cnt L c by omega] at g1
      rw [if_neg (by omega), if_pos (by omega), w1, if_pos (by omega), if_pos (by omega), g1, if_pos rfl]
  | m + 1, i, hi => by
    have hlt : i < L.length := by omega
    have hel := endsL_len L
    have hci := cnt_iff L c i hlt
    have ih := torn_l1 l0 L c hL hpre hL20 hl hc m (i + 1) (by omega)
    refine ih.step fun k => ?_
    rw [selvedgelaw17_PaperTorn.l1, if_pos (by omega), if_pos (by omega), endsL_get L i hlt]
    by_cases h1 : (frs (L.take (i + 1))).size ≤ c
    · have h2 := hci.1 h1
      rw [if_pos (by omega), succ_ok hlt (by omega), show min (i + 1) (cnt L c) = i + 1 by omega, show min i (cnt L c) = i by omega, succ_ok hlt (by omega)]
    · have h2 : ¬ i < cnt L c := fun h => h1 (hci.2 h)
      rw [if_neg (by omega), succ_ok hlt (by omega), show min (i + 1) (cnt L c) = min i (cnt L c) by omega]
theorem torn_end (l0 : List ByteArray) (a : Int) (i : Nat) (hi : i ≤ l0.length) (h20 : i ≤ 20) (hL : Recs (l0.take i)) (hl : l0.length ≤ 100000000) : Evk (fun k => selvedgelaw17_PaperTorn.j1 k l0 a true (frs (l0.take i)) (endsL (l0.take i)) (i : Int) false) true := by
  have hlen : (l0.take i).length = i := by rw [List.length_take]; omega
  by_cases c1 : a < 0
  · refine Evk.step (g := fun k => selvedgelaw17_PaperTorn.j2 k l0 a true (frs (l0.take i)) (endsL (l0.take i)) true) ((Evk.ret true).step fun k => by rw [selvedgelaw17_PaperTorn.j2, if_pos rfl]) fun k => ?_
    rw [selvedgelaw17_PaperTorn.j1, if_neg (by decide), if_pos c1]
  · by_cases c2 : a > ((frs (l0.take i)).size : Int)
    · refine Evk.step (g := fun k => selvedgelaw17_PaperTorn.j2 k l0 a true (frs (l0.take i)) (endsL (l0.take i)) true) ((Evk.ret true).step fun k => by rw [selvedgelaw17_PaperTorn.j2, if_pos rfl]) fun k => ?_
      rw [selvedgelaw17_PaperTorn.j1, if_neg (by decide), if_neg c1, decide_eq_true c2]
    · obtain ⟨c, rfl⟩ : ∃ c : Nat, a = (c : Int) := ⟨a.toNat, by omega⟩
      have h1 := torn_l1 l0 (l0.take i) c hL (by rw [hlen]) (by omega) hl (by omega) i 0 (by omega)
      rw [Nat.zero_min] at h1
      refine Evk.step (g := fun k => selvedgelaw17_PaperTorn.j2 k l0 (c : Int) true (frs (l0.take i)) (endsL (l0.take i)) false) (h1.step fun k => by rw [selvedgelaw17_PaperTorn.j2, if_neg (by decide)]; rfl) fun k => ?_
      rw [selvedgelaw17_PaperTorn.j1, if_neg (by decide), if_neg c1, decide_eq_false c2]
theorem torn_l0 (l0 : List ByteArray) (a : Int) (hl : l0.length ≤ 100000000) (hs : ∀ x ∈ l0, x.size ≤ 1000000000) : ∀ (m i : Nat), i + m = min l0.length 20 → Recs (l0.take i) → Evk (fun k => selvedgelaw17_PaperTorn.l0 k l0 a true (frs (l0.take i)) (endsL (l0.take i)) (i : Int)) true
  | 0, i, hi, hL => by
    refine (torn_end l0 a i (by omega) (by omega) hL hl).step fun k => ?_
    rw [selvedgelaw17_PaperTorn.l0]
    by_cases c : (i : Int) < (l0.length : Int)
    · rw [if_pos c, decide_eq_false (by omega)]
    · rw [if_neg c]
  | m + 1, i, hi, hL => by
    have hlt : i < l0.length := by omega
    have hg := rds' hlt
    have hz := frs_bound _ hL
    rw [List.length_take] at hz
    have ht : l0.take (i + 1) = l0.take i ++ [l0[i]] := (List.take_append_getElem hlt).symm
    by_cases c : l0[i].size ≤ 65536
    · have hL2 : Recs (l0.take (i + 1)) := by
        rw [ht]
        intro x hx
        rcases List.mem_append.1 hx with h | h
        · exact hL x h
        · rw [List.mem_singleton.1 h]; exact c
      have ih := torn_l0 l0 a hl hs m (i + 1) (by omega) hL2
      have hfs : frs (l0.take (i + 1)) = frs (l0.take i) ++ frm l0[i] := by rw [ht, Sa.frs_app]; simp only [frs]; rw [ByteArray.append_empty]
      have hes : endsL (l0.take (i + 1)) = endsL (l0.take i) ++ [((frs (l0.take i) ++ frm l0[i]).size : Int)] := by rw [ht, endsL_snoc]
      rw [hfs, hes] at ih
      have hf : fraB l0[i] = (frm l0[i], 0) := by unfold fraB; rw [if_neg (by omega)]
      have hfz := frm_size l0[i]
      have hnl := Sa.nl_le 8 l0[i].size
      have hel := endsL_len (l0.take i)
      rw [List.length_take] at hel
      refine Evk.step (g := fun k => selvedgelaw17_PaperTorn.j1 k l0 a true (frs (l0.take i)) (endsL (l0.take i)) (i : Int) true) (ih.step fun k => ?_) fun k => by rw [selvedgelaw17_PaperTorn.l0, if_pos (by omega), decide_eq_true (by omega)]
      rw [selvedgelaw17_PaperTorn.j1, if_pos rfl, if_pos (by omega), if_pos (by omega), hg, frame_is _ (hs _ (List.getElem_mem hlt)), hf, Option.bind_some]
      dsimp only
      rw [if_pos rfl, if_pos (by omega), if_pos (by omega), succ_ok hlt (by omega)]
    · have hf : fraB l0[i] = ((⟨#[]⟩ : ByteArray), 4) := by unfold fraB; rw [if_pos (by omega)]
      refine Evk.step (g := fun k => selvedgelaw17_PaperTorn.j1 k l0 a true (frs (l0.take i)) (endsL (l0.take i)) (i : Int) true) ((Evk.ret true).step fun k => ?_) fun k => by rw [selvedgelaw17_PaperTorn.l0, if_pos (by omega), decide_eq_true (by omega)]
      rw [selvedgelaw17_PaperTorn.j1, if_pos rfl, if_pos (by omega), if_pos (by omega), hg, frame_is _ (hs _ (List.getElem_mem hlt)), hf, Option.bind_some]
      dsimp only
      rw [if_neg (by decide)]
theorem bulk_l : ∀ (l : List ByteArray), l.length ≤ (l.map (fun s : ByteArray => s.size + 1)).sum ∧ ∀ x ∈ l, x.size ≤ (l.map (fun s : ByteArray => s.size + 1)).sum
  | [] => ⟨Nat.le_refl _, fun x hx => by simp at hx⟩
  | t :: l => by
    have ih := bulk_l l
    rw [List.map_cons, List.sum_cons, List.length_cons]
    refine ⟨by omega, fun x hx => ?_⟩
    rcases List.mem_cons.1 hx with rfl | h
    · omega
    · have := ih.2 x h; omega
theorem PaperTorn : selvedgelaw17_PaperTorn.Pure := by
  intro l a h1 h2 hB
  simp only at hB
  have hb := bulk_l l
  have h0 := torn_l0 l a (by omega) (fun x hx => by have := hb.2 x hx; omega) (min l.length 20) 0 (by omega) (fun x hx => by simp at hx)
  obtain ⟨k0, hk0⟩ := h0
  refine ⟨max 1000 k0, ?_⟩
  unfold selvedgelaw17_PaperTorn.f
  rw [shown_is _ (by omega), Option.bind_some]
  exact hk0 _ (by omega)

end Go.Proofs.Ytiknkkkfkifahaa.Pure
