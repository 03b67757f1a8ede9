/- Proved: the pure half of the law CoinMore of chapter 12 (what the walked program computes is 'true'). Conditions: those of its row, no other. -/
import Derived.Test.YtdppmkcahfjceaaArgCoinMore
import Derived.Test.YtdppmkcahfjceaaVCoinMoreSz
import Derived.Test.YtdppmkcahfjceaaVCoinMoreDl
import Derived.IntWalk
namespace Go.Proofs.Ytdppmkcahfjceaa.Pure
open Go.IntWalk Go.RowKit Go.Proofs.Ytdppmkcahfjceaa.PCoinMore Go.Proofs.YtdppmkcahfjceaaW.PrintWords Go.Proofs.YtdppmkcahfjceaaW.PrintLast
set_option linter.unusedSimpArgs false
set_option linter.unusedVariables false

def mayC (n : Int) : Bool := decide (4 ≤ n ∧ n ≤ 64 ∧ n % 3 = 1)
theorem c_may (n : Int) : seats_May.f n = some (mayC n) := by
  unfold seats_May.f mayC
  by_cases h1 : n ≥ 4
  · by_cases h2 : n ≤ 64
    · rw [if_pos h1, if_pos h2, Int.tmod_eq_emod_of_nonneg (by omega)]
      congr 1
      rw [Bool.eq_iff_iff, beq_iff_eq, decide_eq_true_iff]
      omega
    · rw [if_pos h1, if_neg h2, decide_eq_false (by omega)]
  · rw [if_neg h1, decide_eq_false (by omega)]
theorem mayC_of {n : Int} (h : mayC n = true) : 4 ≤ n ∧ n ≤ 64 ∧ n % 3 = 1 := of_decide_eq_true h
def weakC (n : Int) : Nat := if mayC n = true then ((n - 1) / 3).toNat + 1 else 0
theorem weakC_le (n : Int) : weakC n ≤ 22 := by
  unfold weakC
  by_cases h : mayC n = true
  · have := mayC_of h; rw [if_pos h]; omega
  · rw [if_neg h]; omega
theorem weakC_pos {n : Int} (h : mayC n = true) : 2 ≤ weakC n := by
  have := mayC_of h
  unfold weakC
  rw [if_pos h]
  omega
theorem c_weak (n : Int) : seats_Weak.f n = some (weakC n : Int) := by
  unfold seats_Weak.f seats_Faults.f weakC
  rw [c_may]
  simp only [Option.bind_some]
  by_cases h : mayC n = true
  · have := mayC_of h
    rw [if_pos h, if_pos h, if_pos h, Option.bind_some, wrap64_in (n - 1) (by omega), Int.tdiv_eq_ediv_of_nonneg (by omega), wrap64_in ((n - 1) / 3) (by omega), wrap64_in _ (by omega)]
    congr 1
    omega
  · rw [if_neg h, if_neg h]
    rfl
theorem c_gm (a b : Int) : gauss_May.f a b = some (decide (Gm.Ok (a, b))) := by
  have e : Gm.Ok (a, b) ↔ 0 ≤ a ∧ a < 10007 ∧ 0 ≤ b ∧ b < 10007 := Iff.rfl
  unfold gauss_May.f
  by_cases h1 : a ≥ 0
  · by_cases h2 : a < 10007
    · by_cases h3 : b ≥ 0
      · rw [if_pos h1, if_pos h2, if_pos h3, Option.some.injEq, decide_eq_decide, e]
        omega
      · rw [if_pos h1, if_pos h2, if_neg h3, decide_eq_false (fun h => by rw [e] at h; omega)]
    · rw [if_pos h1, if_neg h2, decide_eq_false (fun h => by rw [e] at h; omega)]
  · rw [if_neg h1, decide_eq_false (fun h => by rw [e] at h; omega)]
def leadC (x : Gm.E) (n : Int) : Int := if mayC n = true ∧ Gm.Ok x then 1 + (x.1 * 10007 + x.2) % n else 0
theorem lead_sum (a b n : Int) (hn : mayC n = true) (h : Gm.Ok (a, b)) : wrap64 (1 + Int.tmod (wrap64 (wrap64 (a * 10007) + b)) n) = 1 + (a * 10007 + b) % n := by
  have hm := mayC_of hn
  obtain ⟨h1, h2, h3, h4⟩ : 0 ≤ a ∧ a < 10007 ∧ 0 ≤ b ∧ b < 10007 := h
  have m1 := Int.emod_nonneg (a * 10007 + b) (show n ≠ 0 by omega)
  have m2 := Int.emod_lt_of_pos (a * 10007 + b) (show 0 < n by omega)
  rw [wrap64_in (a * 10007) (by omega), wrap64_in (a * 10007 + b) (by omega), Int.tmod_eq_emod_of_nonneg (by omega), wrap64_in _ (by omega)]
theorem c_lead (a b n : Int) : coin_Leader.f a b n = some (leadC (a, b) n) := by
  unfold coin_Leader.f leadC
  rw [c_may, Option.bind_some]
  by_cases hn : mayC n = true
  · have hm := mayC_of hn
    rw [if_pos hn, c_gm, Option.bind_some]
    by_cases h : Gm.Ok (a, b)
    · rw [if_pos (decide_eq_true h), if_neg (by omega), if_pos ⟨hn, h⟩, lead_sum a b n hn h]
    · rw [if_neg (by simpa using h), if_neg (fun x => h x.2)]
  · rw [if_neg hn, if_neg (fun x => hn x.1)]
def dealC (tape : ByteArray) (wave n : Int) : List Gm.E := if wave < 1 ∨ mayC n = false then [] else Sa.dealL tape wave.toNat (weakC n)
def toE (l : List Gm.E) : List S23 := l.map fun p => (⟨p.1, p.2⟩ : S23)
theorem c_deal (tape : ByteArray) (wave n : Int) (ht : tape.size ≤ 1048576) (hw : wave ≤ 9223372036854775807) : coin_Deal.f tape wave n = some (toE (dealC tape wave n)) := by
  unfold coin_Deal.f dealC
  by_cases h1 : wave < 1
  · rw [if_pos h1, if_pos (.inl h1)]
    rfl
  · rw [if_neg h1, c_may, Option.bind_some]
    cases hn : mayC n with
    | false =>
      rw [if_neg (by decide), if_pos (.inr rfl)]
      rfl
    | true =>
      have := weakC_le n
      rw [if_pos rfl, c_weak, Option.bind_some, if_pos ⟨by omega, by omega, by omega, hw⟩, if_neg (by simp; omega), Int.toNat_natCast]
      rfl
theorem dealC_length (tape : ByteArray) (wave n : Int) (h1 : ¬ wave < 1) (hn : mayC n = true) : (dealC tape wave n).length = weakC n := by
  unfold dealC
  rw [if_neg (by simp [hn]; omega), Sa.dealL_length]
theorem num4_ok (d : ByteArray) (i : Nat) : 0 ≤ Sa.num4 d i ∧ Sa.num4 d i < 10007 := by
  unfold Sa.num4
  omega
theorem dealC_ok (tape : ByteArray) (wave n : Int) : ∀ c ∈ dealC tape wave n, Gm.Ok c := by
  intro c hc
  unfold dealC at hc
  split at hc
  · cases hc
  · unfold Sa.dealL at hc
    obtain ⟨k, _, rfl⟩ := List.mem_map.1 hc
    exact ⟨(num4_ok _ _).1, (num4_ok _ _).2, (num4_ok _ _).1, (num4_ok _ _).2⟩
theorem wfI {n : Int} (h : (Lit.int .i64 n).wf = true) : -9223372036854775808 ≤ n ∧ n ≤ 9223372036854775807 := by
  simp [Lit.wf, IntKind.min, IntKind.max, IntKind.signed, IntKind.bits] at h
  omega
theorem shown : selvedgelaw12_shown.f = some true := by
  unfold selvedgelaw12_shown.f
  have e1 : mayC 4 = true := by decide
  have l1 : leadC (0, 0) 4 = 1 := by decide
  have l2 : leadC (5, 2) 4 = 2 := by decide
  rw [c_deal _ _ _ (by decide) (by decide), Option.bind_some, c_lead, Option.bind_some, l1, if_pos rfl, c_lead, Option.bind_some, l2, if_pos rfl]
  unfold toE
  rw [List.length_map, dealC_length _ _ _ (by decide) e1]
  rfl
theorem eE_toE (l : List Gm.E) : eE (toE l) = l := by
  unfold eE toE
  rw [List.map_map]
  exact List.map_id' _
def ownC (tape : ByteArray) (wave n id : Int) : Gm.E := (Fl.ofE (dealC tape wave n) id).1.2
theorem ofE_zero (l : List Gm.E) (id : Int) (h : (Fl.ofE l id).2 ≠ 0) : (Fl.ofE l id).1.2 = (0, 0) := by
  unfold Fl.ofE at h ⊢
  split
  · rfl
  · split
    · rfl
    · split
      · rfl
      · rename_i h1 h2 h3
        rw [if_neg h1, if_neg h2, if_neg h3] at h
        exact absurd rfl h
theorem c_own (tape : ByteArray) (wave n id : Int) (ht : tape.size ≤ 1048576) (hw : wave ≤ 9223372036854775807) : coin_Own.f tape wave n id = some ((ownC tape wave n id).1, (ownC tape wave n id).2) := by
  unfold coin_Own.f share_Of.f ownC
  rw [c_deal tape wave n ht hw, Option.bind_some, Option.bind_some, eE_toE]
  by_cases h : (Fl.ofE (dealC tape wave n) id).2 = 0
  · rw [if_pos h]
  · rw [if_neg h, ofE_zero _ _ h]
def shC (x : S59) : S104 := ⟨x.f1.f0, ⟨x.f1.f4.f0, x.f1.f4.f1⟩⟩
def roundC (L : List S59) (r : Int) : List S59 := L.filter fun x => decide (x.f1.f1 = r)
theorem roundC_len (L : List S59) (r : Int) : (roundC L r).length ≤ L.length := List.length_filter_le _ _
theorem roundC_snoc (L : List S59) (r : Int) (x : S59) : roundC (L ++ [x]) r = if x.f1.f1 = r then roundC L r ++ [x] else roundC L r := by
  unfold roundC
  by_cases h : x.f1.f1 = r <;> simp [List.filter_append, h]
theorem rd59 (L : List S59) {i : Nat} (h : i < L.length) : rd_T59 L (i : Int) = L[i] := by
  unfold rd_T59
  rw [Int.toNat_natCast, List.getD_eq_getElem?_getD, List.getElem?_eq_getElem h]
  rfl
theorem c_round_l (L : List S59) (r : Int) (hl : L.length ≤ 1000000) : ∀ (m i : Nat), i + m = L.length → Fl.Ev (fun k => dag_Round.l0 k r (roundC (L.take i) r) L (L.length : Int) (i : Int)) (roundC L r)
  | 0, i, hi => by
    refine Fl.Ev.step (g := fun _ => some (roundC L r)) (Fl.Ev.const fun _ => rfl) fun k => ?_
    rw [dag_Round.l0, if_neg (by omega), List.take_of_length_le (by omega)]
  | m + 1, i, hi => by
    have hlt : i < L.length := by omega
    have ih := c_round_l L r hl m (i + 1) (by omega)
    have w1 : wrap64 ((i : Int) + 1) = ((i + 1 : Nat) : Int) := by rw [wrap64_in _ (by omega)]; omega
    rw [List.take_succ_eq_append_getElem hlt, roundC_snoc] at ih
    refine ih.step fun k => ?_
    rw [dag_Round.l0, if_pos (by omega), if_pos (by omega), if_pos (by omega), rd59 L hlt, w1]
    by_cases h : L[i].f1.f1 = r
    · rw [if_pos h, if_pos h, if_pos (by have := roundC_len (L.take i) r; rw [List.length_take] at this; omega)]
    · rw [if_neg h, if_neg h]
theorem c_round (L : List S59) (n low r : Int) (hl : L.length ≤ 1000000) : Fl.Ev (fun k => dag_Round.f k n low L r) (roundC L r) :=
  (c_round_l L r hl L.length 0 (by omega)).of_eq fun k => by unfold dag_Round.f; rfl
def openC (s : List S104) (n : Int) : Int × Int := if (Fl.openE (eS s) (Fl.wtE (eS s))).2 = 0 then (leadC (Fl.openE (eS s) (Fl.wtE (eS s))).1 n, 0) else (0, (Fl.openE (eS s) (Fl.wtE (eS s))).2)
def revC (n : Int) (L : List S59) (wave : Int) : Int × Int :=
  if wave < 1 ∨ 1048576 < wave ∨ mayC n = false then (0, 1)
  else if (roundC L (3 * wave)).length < weakC n then (0, 12)
  else openC (((roundC L (3 * wave)).take (weakC n)).map shC) n
theorem c_rev_l (Y L : List S59) (n low : Int) (hl : Y.length ≤ 1000000) : ∀ (m i : Nat), i + m = Y.length → Fl.Ev (fun k => coin_Reveal.l0 k ((Y.take i).map shC) Y (Y.length : Int) (i : Int) n low L) (openC (Y.map shC) n)
  | 0, i, hi => by
    refine Fl.Ev.step (g := fun _ => some (openC (Y.map shC) n)) (Fl.Ev.const fun _ => rfl) fun k => ?_
    rw [coin_Reveal.l0, if_neg (by omega), List.take_of_length_le (by omega)]
    unfold share_Open.f openC
    rw [Option.bind_some]
    simp only
    by_cases h : (Fl.openE (eS (Y.map shC)) (Fl.wtE (eS (Y.map shC)))).2 = 0
    · rw [if_pos h, if_pos h, c_lead]
      rfl
    · rw [if_neg h, if_neg h]
  | m + 1, i, hi => by
    have hlt : i < Y.length := by omega
    have ih := c_rev_l Y L n low hl m (i + 1) (by omega)
    have w1 : wrap64 ((i : Int) + 1) = ((i + 1 : Nat) : Int) := by rw [wrap64_in _ (by omega)]; omega
    rw [List.take_succ_eq_append_getElem hlt, List.map_append] at ih
    refine ih.step fun k => ?_
    rw [coin_Reveal.l0, if_pos (by omega), if_pos (by omega), if_pos (by omega), if_pos (by rw [List.length_map, List.length_take]; omega), rd59 Y hlt, w1]
    rfl
theorem c_rev (L : List S59) (n low wave : Int) (hl : L.length ≤ 1000000) : Fl.Ev (fun k => coin_Reveal.f k n low L wave) (revC n L wave) := by
  have hno : Fl.Ev (fun k => coin_Reveal.j0 k wave true n low L) (0, 1) := Fl.Ev.step (g := fun _ => some (0, 1)) (Fl.Ev.const fun _ => rfl) fun k => by rw [coin_Reveal.j0, if_pos rfl]
  unfold revC
  by_cases h1 : wave < 1
  · rw [if_pos (.inl h1)]
    exact hno.of_eq fun k => by unfold coin_Reveal.f; rw [if_pos h1]
  · by_cases h2 : 1048576 < wave
    · rw [if_pos (.inr (.inl h2))]
      exact hno.of_eq fun k => by unfold coin_Reveal.f; rw [if_neg h1, if_pos h2]
    · cases hn : mayC n with
      | false =>
        rw [if_pos (.inr (.inr rfl))]
        exact hno.of_eq fun k => by unfold coin_Reveal.f; rw [if_neg h1, if_neg h2, c_may, Option.bind_some, hn]; rfl
      | true =>
        rw [if_neg (by rintro (h | h | h) <;> first | omega | cases h)]
        have hr := c_round L n low (3 * wave) hl
        have hj : Fl.Ev (fun k => coin_Reveal.j0 k wave false n low L) (if (roundC L (3 * wave)).length < weakC n then (0, 12) else openC (((roundC L (3 * wave)).take (weakC n)).map shC) n) := by
          refine Fl.Ev.step (hr.bind (g := fun k t142 => ((seats_Weak.f n).bind fun t145 => (if (t142.length : Int) < t145 then (some (0, 12)) else ((seats_Weak.f n).bind fun t146 => (if 0 ≤ t146 then (if t146 ≤ (t142.length : Int) then ((some (t142.take (t146 : Int).toNat : List (S59))).bind fun y147 => (coin_Reveal.l0 k ([] : List (S104)) y147 (y147.length : Int) 0 n low L)) else (none)) else (none)))))) ?_) fun k => ?_
          · by_cases h3 : (roundC L (3 * wave)).length < weakC n
            · rw [if_pos h3]
              exact Fl.Ev.const fun k => by rw [c_weak, Option.bind_some, if_pos (by omega)]
            · rw [if_neg h3]
              have hR := roundC_len L (3 * wave)
              refine (c_rev_l ((roundC L (3 * wave)).take (weakC n)) L n low (by rw [List.length_take]; omega) _ 0 (Nat.zero_add _)).of_eq fun k => ?_
              rw [c_weak, Option.bind_some, if_neg (by omega), Option.bind_some, if_pos (by omega), if_pos (by omega), Option.bind_some, Int.toNat_natCast]
              rfl
          · rw [coin_Reveal.j0, if_neg (by decide), wrap64_in _ (by omega)]
        exact hj.of_eq fun k => by unfold coin_Reveal.f; rw [if_neg h1, if_neg h2, c_may, Option.bind_some, hn]; rfl
theorem openC_deal (tape : ByteArray) (wave n : Int) (h1 : ¬ wave < 1) (hn : mayC n = true) (ids : List Int) (hg : Fl.Good ids) (hl : ids.length = weakC n) (s : List S104) (hs : eS s = ids.map fun id => (id, ownC tape wave n id)) :
    openC s n = (leadC ((dealC tape wave n).getD 0 (0, 0)) n, 0) := by
  have hok := dealC_ok tape wave n
  have hdl := dealC_length tape wave n h1 hn
  have hp := weakC_pos hn
  have hap : Fl.Apart (eS s) := Fl.apart_of hg (by rw [hs, List.map_map]; exact List.map_id' _)
  have hlen : (eS s).length = weakC n := by rw [hs, List.length_map, hl]
  have hv : ∀ j, j < (eS s).length → Fl.vAt (eS s) j = Gm.ev (dealC tape wave n) (Fl.xAt (eS s) j) := fun j hj => by
    unfold Fl.vAt Fl.xAt Fl.idAt
    rw [hs]
    rw [hs, List.length_map] at hj
    rw [List.getD_eq_getElem?_getD, List.getElem?_eq_getElem (by rw [List.length_map]; exact hj), Option.getD_some, List.getElem_map]
    obtain ⟨g1, g2⟩ := hg.2 _ (List.getElem_mem hj)
    show ownC tape wave n ids[j] = _
    unfold ownC
    rw [Fl.ofE_ok g1 g2 hok]
  have ho : Fl.openE (eS s) (Fl.wtE (eS s)) = ((dealC tape wave n).getD 0 (0, 0), 0) := by
    rw [Fl.openE_yes (by omega) hap (fun j hj => by rw [hv j hj]; exact Gm.ev_ok _ _), Fl.secret_of hap (f := Gm.ev (dealC tape wave n)) (fun x _ => Gm.ev_ok _ _) (n := (dealC tape wave n).length) (by omega) (Gm.pl_ev _ hok) hv]
    cases he : dealC tape wave n with
    | nil => rw [he] at hdl; simp at hdl; omega
    | cons c q => rw [Gm.ev_zero c q (hok c (by rw [he]; simp))]; rfl
  unfold openC
  rw [ho, if_pos rfl]
def lsC : Nat → Nat → Nat → List Int
  | 0, _, _ => []
  | m + 1, v, i => if v % 2 = 1 then (i : Int) :: lsC m (v / 2) (i + 1) else lsC m (v / 2) (i + 1)
theorem lsC_mem : ∀ (m v i : Nat) (x : Int), x ∈ lsC m v i → (i : Int) ≤ x ∧ x < (i + m : Nat)
  | 0, _, _, x, h => by cases h
  | m + 1, v, i, x, h => by
    unfold lsC at h
    split at h
    · rcases List.mem_cons.1 h with rfl | h
      · omega
      · have := lsC_mem m _ _ x h; omega
    · have := lsC_mem m _ _ x h; omega
theorem lsC_nodup : ∀ (m v i : Nat), (lsC m v i).Nodup
  | 0, _, _ => List.nodup_nil
  | m + 1, v, i => by
    unfold lsC
    split
    · rw [List.nodup_cons]
      exact ⟨fun h => by have := lsC_mem m _ _ _ h; omega, lsC_nodup m _ _⟩
    · exact lsC_nodup m _ _
theorem lsC_good (v : Nat) : Fl.Good (lsC 64 v 1) := ⟨lsC_nodup _ _ _, fun x hx => by have := lsC_mem _ _ _ x hx; omega⟩
theorem lsC_len (m v i : Nat) : (lsC m v i).length ≤ m := by
  induction m generalizing v i with
  | zero => exact Nat.le_refl _
  | succ m ih =>
    unfold lsC
    split
    · have := ih (v / 2) (i + 1); rw [List.length_cons]; omega
    · have := ih (v / 2) (i + 1); omega
theorem list_l : ∀ (m i v : Nat) (acc : List Int), i + m = 65 → v < 18446744073709551616 → acc.length ≤ i → Fl.Ev (fun k => selvedgeref05_List.l0 k (v : Int) acc (i : Int)) (acc ++ lsC m v i)
  | 0, i, v, acc, hi, hv, ha => by
    refine Fl.Ev.step (g := fun _ => some (acc ++ lsC 0 v i)) (Fl.Ev.const fun _ => rfl) fun k => ?_
    rw [selvedgeref05_List.l0, if_neg (by omega), lsC, List.append_nil]
  | m + 1, i, v, acc, hi, hv, ha => by
    have hu : IntKind.u64.wrap (Int.tdiv (v : Int) 2) = ((v / 2 : Nat) : Int) := by
      rw [Int.tdiv_eq_ediv_of_nonneg (by omega), u64_wrap_id _ (by omega) (by omega)]
      omega
    have w1 : wrap64 ((i : Int) + 1) = ((i + 1 : Nat) : Int) := by rw [wrap64_in _ (by omega)]; omega
    have hm : Int.tmod (v : Int) 2 = ((v % 2 : Nat) : Int) := by rw [Int.tmod_eq_emod_of_nonneg (by omega)]; omega
    rw [lsC]
    by_cases h : v % 2 = 1
    · have ih := list_l m (i + 1) (v / 2) (acc ++ [(i : Int)]) (by omega) (by omega) (by rw [List.length_append]; simp; omega)
      rw [List.append_assoc] at ih
      rw [if_pos h]
      refine ih.step fun k => ?_
      rw [selvedgeref05_List.l0, if_pos (by omega), hm, if_pos (by omega), if_pos (by omega), hu, w1]
    · have ih := list_l m (i + 1) (v / 2) acc (by omega) (by omega) (by omega)
      rw [if_neg h]
      refine ih.step fun k => ?_
      rw [selvedgeref05_List.l0, if_pos (by omega), hm, if_neg (by omega), hu, w1]
theorem list_ev (v : Nat) (hv : v < 18446744073709551616) : Fl.Ev (fun k => selvedgeref05_List.f k (v : Int)) (lsC 64 v 1) :=
  (list_l 64 1 v [] (by omega) hv (by simp)).of_eq fun k => by unfold selvedgeref05_List.f; rfl
theorem wfU {n : Int} (h : (Lit.int .u64 n).wf = true) : 0 ≤ n ∧ n < 18446744073709551616 := by
  simp [Lit.wf, IntKind.min, IntKind.max, IntKind.signed, IntKind.bits] at h
  omega
def enC (tape : ByteArray) (wave n id : Int) : S59 := ⟨(⟨#[]⟩ : ByteArray), ⟨id, 3 * wave, [], [], ⟨(ownC tape wave n id).1, (ownC tape wave n id).2⟩⟩⟩
theorem eS_en (tape : ByteArray) (wave n : Int) (ids : List Int) : eS ((ids.map (enC tape wave n)).map shC) = ids.map fun id => (id, ownC tape wave n id) := by
  unfold eS
  rw [List.map_map, List.map_map]
  rfl
theorem round_en (tape : ByteArray) (wave n : Int) (ids : List Int) : roundC (ids.map (enC tape wave n)) (3 * wave) = ids.map (enC tape wave n) := by
  unfold roundC
  rw [List.filter_eq_self]
  intro x hx
  obtain ⟨id, _, rfl⟩ := List.mem_map.1 hx
  exact decide_eq_true rfl
theorem good_tk {l : List Int} (h : Fl.Good l) (n : Nat) : Fl.Good (l.take n) := ⟨h.1.sublist (List.take_sublist _ _), fun x hx => h.2 x (List.mem_of_mem_take hx)⟩
/-- What is revealed where a round's shares are those dealt. -/
theorem revC_en (tape : ByteArray) (wave n : Int) (L : List S59) (ids : List Int) (h1 : ¬ wave < 1) (h2 : ¬ 1048576 < wave) (hn : mayC n = true) (hg : Fl.Good ids) (hR : roundC L (3 * wave) = ids.map (enC tape wave n)) :
    revC n L wave = if ids.length < weakC n then (0, 12) else (leadC ((dealC tape wave n).getD 0 (0, 0)) n, 0) := by
  unfold revC
  rw [if_neg (by rintro (h | h | h) <;> first | omega | (rw [hn] at h; cases h)), hR, List.length_map]
  by_cases h3 : ids.length < weakC n
  · rw [if_pos h3, if_pos h3]
  · rw [if_neg h3, if_neg h3, ← List.map_take]
    exact openC_deal tape wave n h1 hn (ids.take (weakC n)) (good_tk hg _) (by rw [List.length_take]; omega) _ (eS_en _ _ _ _)
theorem has_l (l : List Int) (x : Int) (hl : l.length ≤ 64) : ∀ (m i : Nat), i + m = l.length → (∀ j (h : j < l.length), j < i → l[j] ≠ x) → Fl.Ev (fun k => selvedgeref05_Has.l0 k x l (i : Int)) (decide (x ∈ l))
  | 0, i, hi, hn => by
    refine Fl.Ev.step (g := fun _ => some (decide (x ∈ l))) (Fl.Ev.const fun _ => rfl) fun k => ?_
    rw [selvedgeref05_Has.l0, if_neg (by omega), decide_eq_false]
    intro h
    obtain ⟨j, hj, e⟩ := List.getElem_of_mem h
    exact hn j hj (by omega) e
  | m + 1, i, hi, hn => by
    have hlt : i < l.length := by omega
    have er : rd l (i : Int) = l[i] := by
      unfold rd
      rw [Int.toNat_natCast, List.getD_eq_getElem?_getD, List.getElem?_eq_getElem hlt]
      rfl
    have w1 : wrap64 ((i : Int) + 1) = ((i + 1 : Nat) : Int) := by rw [wrap64_in _ (by omega)]; omega
    by_cases h : l[i] = x
    · refine Fl.Ev.step (g := fun _ => some (decide (x ∈ l))) (Fl.Ev.const fun _ => rfl) fun k => ?_
      rw [selvedgeref05_Has.l0, if_pos (by omega), if_pos (by omega), er, if_pos h, decide_eq_true (h ▸ List.getElem_mem hlt)]
    · refine (has_l l x hl m (i + 1) (by omega) (fun j hj hlt2 => by
        by_cases e : j = i
        · subst e; exact h
        · exact hn j hj (by omega))).step fun k => ?_
      rw [selvedgeref05_Has.l0, if_pos (by omega), if_pos (by omega), er, if_neg h, w1]
theorem has_ev (v : Nat) (x : Int) (hv : v < 18446744073709551616) : Fl.Ev (fun k => selvedgeref05_Has.f k (v : Int) x) (decide (x ∈ lsC 64 v 1)) :=
  ((list_ev v hv).bind (g := fun k t174 => selvedgeref05_Has.l0 k x t174 0) (has_l _ x (lsC_len _ _ _) _ 0 (Nat.zero_add _) (fun j _ h => by omega))).of_eq fun k => by unfold selvedgeref05_Has.f; rfl
def numsC : Nat → List Int
  | 0 => []
  | m + 1 => numsC m ++ [((m + 1 : Nat) : Int)]
theorem numsC_mem : ∀ (m : Nat) (x : Int), x ∈ numsC m → 1 ≤ x ∧ x ≤ (m : Int)
  | 0, x, h => by cases h
  | m + 1, x, h => by
    rcases List.mem_append.1 h with h | h
    · have := numsC_mem m x h; omega
    · have := List.mem_singleton.1 h; omega
theorem numsC_nodup : ∀ m, (numsC m).Nodup
  | 0 => List.nodup_nil
  | m + 1 => by
    unfold numsC
    rw [List.nodup_append]
    refine ⟨numsC_nodup m, by simp, fun a ha b hb e => ?_⟩
    have := numsC_mem m a ha
    have := List.mem_singleton.1 hb
    omega
theorem numsC_len : ∀ m, (numsC m).length = m
  | 0 => rfl
  | m + 1 => by unfold numsC; rw [List.length_append, numsC_len m]; rfl
def inC (A : List Int) (m : Nat) : List Int := (numsC m).filter fun x => decide (x ∈ A)
def orC (A B : List Int) (m : Nat) : List Int := (numsC m).filter fun x => decide (x ∈ A) || decide (x ∈ B)
theorem good_inC (A : List Int) : Fl.Good (inC A 7) := ⟨(numsC_nodup 7).sublist List.filter_sublist, fun x hx => by have := numsC_mem 7 x (List.mem_filter.1 hx).1; omega⟩
theorem good_orC (A B : List Int) : Fl.Good (orC A B 7) := ⟨(numsC_nodup 7).sublist List.filter_sublist, fun x hx => by have := numsC_mem 7 x (List.mem_filter.1 hx).1; omega⟩
theorem filt_pos {α : Type} {p : α → Bool} {x : α} (h : p x = true) : [x].filter p = [x] := by rw [List.filter_cons, if_pos h]; rfl
theorem filt_neg {α : Type} {p : α → Bool} {x : α} (h : ¬ p x = true) : [x].filter p = [] := by rw [List.filter_cons, if_neg h]; rfl
theorem or_ge (A B : List Int) (m : Nat) : (inC A m).length ≤ (orC A B m).length := by
  induction m with
  | zero => exact Nat.le_refl _
  | succ m ih =>
    have e : numsC (m + 1) = numsC m ++ [((m + 1 : Nat) : Int)] := rfl
    unfold inC orC at *
    rw [e, List.filter_append, List.filter_append, List.length_append, List.length_append]
    generalize ((m + 1 : Nat) : Int) = y
    by_cases h : y ∈ A
    · rw [filt_pos (p := fun x => decide (x ∈ A)) (decide_eq_true h), filt_pos (p := fun x => decide (x ∈ A) || decide (x ∈ B)) (by simp [h])]
      simp only [List.length_cons, List.length_nil]
      omega
    · rw [filt_neg (p := fun x => decide (x ∈ A)) (by simpa using h)]
      simp only [List.length_nil]
      omega
def otC (wave id : Int) : S59 := ⟨(⟨#[]⟩ : ByteArray), ⟨id, 3 * wave + 1, [], [], ⟨0, 0⟩⟩⟩
def bL (tape : ByteArray) (wave : Int) (A B : List Int) : Nat → List S59
  | 0 => []
  | m + 1 => bL tape wave A B m ++ (otC wave ((m + 1 : Nat) : Int) :: if ((m + 1 : Nat) : Int) ∈ A ∨ ((m + 1 : Nat) : Int) ∈ B then [enC tape wave 7 ((m + 1 : Nat) : Int)] else [])
theorem bL_round (tape : ByteArray) (wave : Int) (A B : List Int) (m : Nat) : roundC (bL tape wave A B m) (3 * wave) = (orC A B m).map (enC tape wave 7) := by
  induction m with
  | zero => rfl
  | succ m ih =>
    have e1 : decide ((otC wave ((m + 1 : Nat) : Int)).f1.f1 = 3 * wave) = false := decide_eq_false (by show ¬ (3 * wave + 1 = 3 * wave); omega)
    have e2 : decide ((enC tape wave 7 ((m + 1 : Nat) : Int)).f1.f1 = 3 * wave) = true := decide_eq_true rfl
    unfold roundC orC at *
    unfold bL numsC
    rw [List.filter_append, ih, List.filter_append, List.map_append]
    congr 1
    rw [List.filter_cons_of_neg (by rw [e1]; decide)]
    by_cases h : ((m + 1 : Nat) : Int) ∈ A ∨ ((m + 1 : Nat) : Int) ∈ B
    · rw [if_pos h, filt_pos (p := fun x : S59 => decide (x.f1.f1 = 3 * wave)) e2, filt_pos (p := fun x => decide (x ∈ A) || decide (x ∈ B)) (by simpa using h)]
      rfl
    · rw [if_neg h, filt_neg (p := fun x => decide (x ∈ A) || decide (x ∈ B)) (by simpa using h)]
      rfl
theorem bL_len (tape : ByteArray) (wave : Int) (A B : List Int) (m : Nat) : (bL tape wave A B m).length ≤ 2 * m := by
  induction m with
  | zero => exact Nat.le_refl _
  | succ m ih =>
    unfold bL
    rw [List.length_append, List.length_cons]
    split
    · simp; omega
    · simp; omega
theorem in_len (A : List Int) (m : Nat) : (inC A m).length ≤ m := by
  have := List.length_filter_le (fun x => decide (x ∈ A)) (numsC m)
  rw [numsC_len] at this
  exact this
theorem inC_snoc (A : List Int) (m : Nat) : inC A (m + 1) = if ((m + 1 : Nat) : Int) ∈ A then inC A m ++ [((m + 1 : Nat) : Int)] else inC A m := by
  have e : numsC (m + 1) = numsC m ++ [((m + 1 : Nat) : Int)] := rfl
  unfold inC
  rw [e, List.filter_append]
  by_cases h : ((m + 1 : Nat) : Int) ∈ A
  · rw [if_pos h, filt_pos (p := fun x => decide (x ∈ A)) (decide_eq_true h)]
  · rw [if_neg h, filt_neg (p := fun x => decide (x ∈ A)) (by simpa using h), List.append_nil]
theorem fin_ev (tape : ByteArray) (wave : Int) (A B : List Int) (h1 : ¬ wave < 1) (h2 : ¬ wave > 1000) :
    Fl.Ev (fun k => ((coin_Reveal.f k 7 0 ((inC A 7).map (enC tape wave 7)) wave).bind fun bt182 => ((coin_Reveal.f k 7 0 (bL tape wave A B 7) wave).bind fun bt184 => (if bt182.2 = 0 then (if bt184.2 = 0 then (some (bt182.1 == bt184.1)) else (some false)) else (some true))))) true := by
  have hn : mayC 7 = true := by decide
  have ha := c_rev ((inC A 7).map (enC tape wave 7)) 7 0 wave (by rw [List.length_map]; have := in_len A 7; omega)
  have hb := c_rev (bL tape wave A B 7) 7 0 wave (by have := bL_len tape wave A B 7; omega)
  rw [revC_en tape wave 7 _ (inC A 7) h1 (by omega) hn (good_inC A) (round_en _ _ _ _)] at ha
  rw [revC_en tape wave 7 _ (orC A B 7) h1 (by omega) hn (good_orC A B) (bL_round _ _ _ _ _)] at hb
  have hge := or_ge A B 7
  refine ha.bind (g := fun k bt182 => ((coin_Reveal.f k 7 0 (bL tape wave A B 7) wave).bind fun bt184 => (if bt182.2 = 0 then (if bt184.2 = 0 then (some (bt182.1 == bt184.1)) else (some false)) else (some true)))) (hb.bind (g := fun k bt184 => (if (if (inC A 7).length < weakC 7 then (0, 12) else (leadC ((dealC tape wave 7).getD 0 (0, 0)) 7, (0 : Int))).2 = 0 then (if bt184.2 = 0 then (some ((if (inC A 7).length < weakC 7 then ((0 : Int), (12 : Int)) else (leadC ((dealC tape wave 7).getD 0 (0, 0)) 7, (0 : Int))).1 == bt184.1)) else (some false)) else (some true))) (Fl.Ev.const fun k => ?_))
  by_cases h3 : (inC A 7).length < weakC 7
  · rw [if_pos h3]
    rfl
  · rw [if_neg h3, if_neg (show ¬ (orC A B 7).length < weakC 7 by omega)]
    simp
theorem more_l (tape : ByteArray) (wave : Int) (a b : Nat) (ht : tape.size ≤ 1048576) (h1 : ¬ wave < 1) (h2 : ¬ wave > 1000) (ha : a < 18446744073709551616) (hb : b < 18446744073709551616) : ∀ (m i : Nat), i + m = 7 →
    Fl.Ev (fun k => selvedgelaw12_CoinMore.l0 k tape wave (a : Int) (b : Int) ((i + 1 : Nat) : Int) 7 0 ((inC (lsC 64 a 1) i).map (enC tape wave 7)) 7 0 (bL tape wave (lsC 64 a 1) (lsC 64 b 1) i)) true
  | 0, i, hi => by
    obtain rfl : i = 7 := by omega
    refine Fl.Ev.step (fin_ev tape wave (lsC 64 a 1) (lsC 64 b 1) h1 h2) fun k => ?_
    rw [selvedgelaw12_CoinMore.l0, if_neg (by omega)]
  | m + 1, i, hi => by
    have ih := more_l tape wave a b ht h1 h2 ha hb m (i + 1) (by omega)
    have w1 : wrap64 (((i + 1 : Nat) : Int) + 1) = ((i + 1 + 1 : Nat) : Int) := by rw [wrap64_in _ (by omega)]; omega
    have w3 : wrap64 (3 * wave) = 3 * wave := wrap64_in _ (by omega)
    have w4 : wrap64 (3 * wave + 1) = 3 * wave + 1 := wrap64_in _ (by omega)
    have li := in_len (lsC 64 a 1) i
    have lb := bL_len tape wave (lsC 64 a 1) (lsC 64 b 1) i
    have hA := has_ev a ((i + 1 : Nat) : Int) ha
    have hB := has_ev b ((i + 1 : Nat) : Int) hb
    obtain ⟨kA, hA⟩ := hA
    obtain ⟨kB, hB⟩ := hB
    obtain ⟨kI, ih⟩ := ih
    have hA : ∀ k, kA ≤ k → selvedgeref05_Has.f k (a : Int) _ = _ := hA
    have hB : ∀ k, kB ≤ k → selvedgeref05_Has.f k (b : Int) _ = _ := hB
    have ih : ∀ k, kI ≤ k → selvedgelaw12_CoinMore.l0 k tape wave (a : Int) (b : Int) ((i + 1 + 1 : Nat) : Int) 7 0 _ 7 0 _ = _ := ih
    refine ⟨max (max kA kB) kI + 1, fun k hk => ?_⟩
    obtain ⟨k', rfl⟩ : ∃ k', k = k' + 1 := ⟨k - 1, by omega⟩
    have ih := ih k' (by omega)
    rw [inC_snoc, bL] at ih
    show selvedgelaw12_CoinMore.l0 (k' + 1) tape wave (a : Int) (b : Int) ((i + 1 : Nat) : Int) 7 0 _ 7 0 _ = _
    rw [selvedgelaw12_CoinMore.l0, if_pos (by omega), c_own _ _ _ _ ht (by omega), Option.bind_some, hA k' (by omega), Option.bind_some, hB k' (by omega), Option.bind_some, w3, w4, w1]
    by_cases hIa : ((i + 1 : Nat) : Int) ∈ lsC 64 a 1
    · rw [if_pos hIa, if_pos (.inl hIa), List.map_append] at ih
      rw [if_pos (decide_eq_true hIa), if_pos (by rw [List.length_map]; omega), if_pos (by omega), Option.bind_some, if_pos (by rw [List.length_append]; simp; omega), List.append_assoc]
      exact ih
    · rw [if_neg (by simpa using hIa), if_pos (by omega), Option.bind_some]
      by_cases hIb : ((i + 1 : Nat) : Int) ∈ lsC 64 b 1
      · rw [if_neg hIa, if_pos (.inr hIb)] at ih
        rw [if_pos (decide_eq_true hIb), if_pos (by rw [List.length_append]; simp; omega), List.append_assoc]
        exact ih
      · rw [if_neg hIa, if_neg (fun h => h.elim hIa hIb)] at ih
        rw [if_neg (by simpa using hIb)]
        exact ih
theorem CoinMore : selvedgelaw12_CoinMore.Pure := by
  intro x hx hb
  have ht : x.f0.size ≤ 1048576 := by unfold B57 at hb; simp only at hb; omega
  have hu := wfU hx.2.2.1
  have hv := wfU hx.2.2.2
  obtain ⟨a, ea⟩ := Int.eq_ofNat_of_zero_le hu.1
  obtain ⟨b, eb⟩ := Int.eq_ofNat_of_zero_le hv.1
  have hj : ∀ z : Bool, (z = false → ¬ x.f1 < 1 ∧ ¬ x.f1 > 1000) → Fl.Ev (fun k => selvedgelaw12_CoinMore.j0 k x.f0 x.f1 x.f2 x.f3 true z) true := by
    intro z hz
    cases z with
    | true =>
      refine Fl.Ev.step (g := fun _ => some true) (Fl.Ev.const fun _ => rfl) fun k => ?_
      rw [selvedgelaw12_CoinMore.j0, if_pos rfl]
    | false =>
      obtain ⟨h1, h2⟩ := hz rfl
      refine Fl.Ev.step (more_l x.f0 x.f1 a b ht h1 h2 (by omega) (by omega) 7 0 (by omega)) fun k => ?_
      rw [selvedgelaw12_CoinMore.j0, if_neg (by decide), ea, eb]
      rfl
  refine Fl.Ev.get (f := fun k => selvedgelaw12_CoinMore.f k x.f0 x.f1 x.f2 x.f3) ?_
  by_cases h1 : x.f1 < 1
  · exact (hj true (by simp)).of_eq fun k => by unfold selvedgelaw12_CoinMore.f; rw [shown, Option.bind_some, if_pos rfl, if_pos h1]
  · exact (hj (decide (x.f1 > 1000)) (fun hz => ⟨h1, of_decide_eq_false hz⟩)).of_eq fun k => by unfold selvedgelaw12_CoinMore.f; rw [shown, Option.bind_some, if_pos rfl, if_neg h1]

end Go.Proofs.Ytdppmkcahfjceaa.Pure
