import Derived.Test.YtcbfnmabckjijaaArgOrderMarks
import Derived.Test.YtcbfnmabckjijaaNp
import Derived.Test.YtcbfnmabckjijaaEk
namespace Go.Proofs.Ytcbfnmabckjijaa.Pure
open Go.RowKit Go.Proofs.Ytcbfnmabckjijaa.POrderMarks Go.Proofs.YtcbfnmabckjijaaW.PrintWords Go.Proofs.YtcbfnmabckjijaaW.PrintLast
set_option linter.unusedVariables false
set_option linter.unusedSimpArgs false

open Go.Proofs.Ytcbfnmabckjijaa.Ek
set_option maxRecDepth 100000 in
theorem shown_true : selvedgelaw14_shown.f 400 = some true := by decide +kernel
theorem shown_ev : Evk (fun k => selvedgelaw14_shown.f k) true := Evk.of_mono (fun k r h => selvedgelaw14_shown.mono k r h) shown_true
theorem evk_succ {α : Type} {f : Nat → Option α} {v : α} (h : Evk (fun k => f (k + 1)) v) : Evk f v := Evk.step h (fun _ => rfl)
theorem w64 (x : Int) (h : -4611686018427387904 ≤ x) (h' : x ≤ 4611686018427387904) : wrap64 x = x := Go.IntWalk.wrap64_in x (by omega)
theorem rd_mem (l : List Int) (i : Nat) (h : i < l.length) : rd l (i : Int) = l[i] := by
  unfold rd
  rw [Int.toNat_natCast, List.getD_eq_getElem?_getD, List.getElem?_eq_getElem h]; rfl
theorem rd54_eq (m : List S54) (i : Nat) (h : i < m.length) : rd_T54 m (i : Int) = m[i] := by
  unfold rd_T54
  rw [Int.toNat_natCast, List.getD_eq_getElem?_getD, List.getElem?_eq_getElem h]; rfl
def okI (v : Int) : Bool := decide (v > -1099511627776) && decide (v < 1099511627776)
theorem okI_iff (v : Int) : okI v = true ↔ -1099511627776 < v ∧ v < 1099511627776 := by
  unfold okI; rw [Bool.and_eq_true, decide_eq_true_eq, decide_eq_true_eq]
def fewIn (b : Bool) (r : List Int) : Bool := r.foldl (fun b v => b && okI v) b
def fewOut (b : Bool) (r : List S54) : Bool := r.foldl (fun b m => fewIn (b && okI m.f1) m.f2) b
theorem fewIn_true : ∀ (r : List Int) (b : Bool), fewIn b r = true ↔ b = true ∧ ∀ v ∈ r, okI v = true
  | [], b => by simp [fewIn]
  | v :: r, b => by
    show fewIn (b && okI v) r = true ↔ _
    rw [fewIn_true r (b && okI v)]
    simp only [Bool.and_eq_true, List.mem_cons, forall_eq_or_imp, and_assoc]
theorem fewOut_true : ∀ (r : List S54) (b : Bool), fewOut b r = true ↔ b = true ∧ ∀ m ∈ r, okI m.f1 = true ∧ ∀ v ∈ m.f2, okI v = true
  | [], b => by simp [fewOut]
  | m :: r, b => by
    show fewOut (fewIn (b && okI m.f1) m.f2) r = true ↔ _
    rw [fewOut_true r _, fewIn_true]
    simp only [Bool.and_eq_true, List.mem_cons, forall_eq_or_imp, and_assoc]
theorem few_in (l : List S54) (hl : l.length ≤ 1048576) (i : Nat) (hi : i < l.length) (h2 : (l[i]).f2.length ≤ 1048576) (R : Bool) : ∀ (n j : Nat) (b : Bool), j + n = (l[i]).f2.length → Evk (fun k => selvedgelaw14_few.l0 k l (fewIn b ((l[i]).f2.drop j)) ((i + 1 : Nat) : Int)) R → Evk (fun k => selvedgelaw14_few.l1 k l b (i : Int) (j : Int)) R
  | 0, j, b, h, hn => Evk.step hn (fun k => by
      show selvedgelaw14_few.l1 (k + 1) l b (i : Int) (j : Int) = _
      rw [selvedgelaw14_few.l1, if_pos (by omega), if_pos (by omega), rd54_eq l i hi, if_neg (by omega), List.drop_eq_nil_of_le (by omega), w64 ((i : Int) + 1) (by omega) (by omega)]
      rfl)
  | n + 1, j, b, h, hn => by
    have hj : j < (l[i]).f2.length := by omega
    have e : fewIn b ((l[i]).f2.drop j) = fewIn (b && okI ((l[i]).f2[j])) ((l[i]).f2.drop (j + 1)) := by
      rw [List.drop_eq_getElem_cons hj]; rfl
    rw [e] at hn
    have ih := few_in l hl i hi h2 R n (j + 1) _ (by omega) hn
    refine Evk.step ih (fun k => ?_)
    show selvedgelaw14_few.l1 (k + 1) l b (i : Int) (j : Int) = selvedgelaw14_few.l1 k l (b && okI ((l[i]).f2[j])) (i : Int) ((j + 1 : Nat) : Int)
    rw [selvedgelaw14_few.l1, if_pos (by omega), if_pos (by omega), rd54_eq l i hi, if_pos (by omega), rd_mem _ j hj, w64 ((j : Int) + 1) (by omega) (by omega)]
    cases b with
    | false => rw [if_neg (by decide)]; rfl
    | true =>
      rw [if_pos rfl, if_pos (by omega)]
      by_cases h1 : (l[i]).f2[j] > -1099511627776
      · rw [if_pos h1]; simp only [okI, decide_eq_true h1, Bool.true_and]; rfl
      · rw [if_neg h1]; simp only [okI, decide_eq_false h1, Bool.false_and, Bool.and_false]; rfl
theorem few_out (l : List S54) (hl : l.length ≤ 1048576) (h2 : ∀ m ∈ l, m.f2.length ≤ 1048576) : ∀ (n i : Nat) (b : Bool), i + n = l.length → Evk (fun k => selvedgelaw14_few.l0 k l b (i : Int)) (fewOut b (l.drop i))
  | 0, i, b, h => Evk.step (Evk.ret _) (fun k => by
      show selvedgelaw14_few.l0 (k + 1) l b (i : Int) = _
      rw [selvedgelaw14_few.l0, if_neg (by omega), List.drop_eq_nil_of_le (by omega)]; rfl)
  | n + 1, i, b, h => by
    have hi : i < l.length := by omega
    have e : fewOut b (l.drop i) = fewOut (fewIn (b && okI (l[i]).f1) ((l[i]).f2.drop 0)) (l.drop (i + 1)) := by rw [List.drop_eq_getElem_cons hi]; rfl
    rw [e]
    have ih := few_out l hl h2 n (i + 1) (fewIn (b && okI (l[i]).f1) ((l[i]).f2.drop 0)) (by omega)
    have hin := few_in l hl i hi (h2 _ (List.getElem_mem hi)) _ (l[i]).f2.length 0 (b && okI (l[i]).f1) (by omega) ih
    have hj : Evk (fun k => selvedgelaw14_few.j2 k l (b && okI (l[i]).f1) (i : Int)) (fewOut (fewIn (b && okI (l[i]).f1) ((l[i]).f2.drop 0)) (l.drop (i + 1))) := Evk.step hin (fun k => by rw [selvedgelaw14_few.j2]; rfl)
    refine Evk.step hj (fun k => ?_)
    show selvedgelaw14_few.l0 (k + 1) l b (i : Int) = _
    rw [selvedgelaw14_few.l0, if_pos (by omega)]
    cases b with
    | false => rw [if_neg (by decide)]; rfl
    | true =>
      rw [if_pos rfl, if_pos (by omega), rd54_eq l i hi]
      by_cases h1 : (l[i]).f1 > -1099511627776
      · rw [if_pos h1]; simp only [okI, decide_eq_true h1, Bool.true_and]
      · rw [if_neg h1]; simp only [okI, decide_eq_false h1, Bool.false_and, Bool.and_false]
theorem few_ev (l : List S54) (hl : l.length ≤ 1048576) (h2 : ∀ m ∈ l, m.f2.length ≤ 1048576) (s : Int) : Evk (fun k => selvedgelaw14_few.f k l s) (fewOut (okI s) l) := by
  have h0 : Evk (fun k => selvedgelaw14_few.j0 k l (okI s)) (fewOut (okI s) l) := Evk.step (few_out l hl h2 l.length 0 (okI s) (by omega)) (fun k => by rw [selvedgelaw14_few.j0]; rfl)
  refine Evk.of_eq h0 (fun k => ?_)
  show selvedgelaw14_few.f k l s = _
  unfold selvedgelaw14_few.f
  by_cases h1 : s > -1099511627776
  · rw [if_pos h1]; simp only [okI, decide_eq_true h1, Bool.true_and]
  · rw [if_neg h1]; simp only [okI, decide_eq_false h1, Bool.false_and]
def mk4 (q : Si.MS × Int) (i : Nat) : Int × Int × List Int × Int := (q.1.1, q.1.2.1, q.1.2.2, if 0 ≤ q.2 then q.2 + i else -1)
theorem mkOf_drop (l : List S54) (i : Nat) (h : i < l.length) : mkOf (l.drop i) = ((l[i]).f0, (l[i]).f1, (l[i]).f2) :: mkOf (l.drop (i + 1)) := by
  rw [List.drop_eq_getElem_cons h]; rfl
theorem mark_l (l : List S54) (hl : l.length ≤ 1048576) (o : Int) : ∀ (n i : Nat), i + n = l.length → Evk (fun k => selvedgeref14_mark.l0 k l o (i : Int)) (mk4 (Si.ofS (mkOf (l.drop i)) o) i)
  | 0, i, h => Evk.step (Evk.ret _) (fun k => by
      show selvedgeref14_mark.l0 (k + 1) l o (i : Int) = _
      rw [selvedgeref14_mark.l0, if_neg (by omega), List.drop_eq_nil_of_le (by omega)]; rfl)
  | n + 1, i, h => by
    have hi : i < l.length := by omega
    have ih := mark_l l hl o n (i + 1) (by omega)
    rw [mkOf_drop l i hi, Si.ofS_cons]
    by_cases e : (l[i]).f0 = o
    · rw [if_pos e]
      refine Evk.step (Evk.ret _) (fun k => ?_)
      show selvedgeref14_mark.l0 (k + 1) l o (i : Int) = _
      rw [selvedgeref14_mark.l0, if_pos (by omega), if_pos (by omega), rd54_eq l i hi, if_pos e]
      simp [mk4]
    · rw [if_neg e]
      have ev : mk4 ((Si.ofS (mkOf (l.drop (i + 1))) o).1, if 0 ≤ (Si.ofS (mkOf (l.drop (i + 1))) o).2 then (Si.ofS (mkOf (l.drop (i + 1))) o).2 + 1 else -1) i = mk4 (Si.ofS (mkOf (l.drop (i + 1))) o) (i + 1) := by
        unfold mk4
        simp only []
        congr 3
        split
        · rw [if_pos (by omega)]; omega
        · rw [if_neg (by omega)]
      rw [ev]
      refine Evk.step ih (fun k => ?_)
      show selvedgeref14_mark.l0 (k + 1) l o (i : Int) = _
      rw [selvedgeref14_mark.l0, if_pos (by omega), if_pos (by omega), rd54_eq l i hi, if_neg e, w64 ((i : Int) + 1) (by omega) (by omega)]
      rfl
theorem mark_ev (l : List S54) (hl : l.length ≤ 1048576) (o : Int) : Evk (fun k => selvedgeref14_mark.f k l o) ((Si.ofS (mkOf l) o).1.1, (Si.ofS (mkOf l) o).1.2.1, (Si.ofS (mkOf l) o).1.2.2, (Si.ofS (mkOf l) o).2) := by
  have h := mark_l l hl o l.length 0 (by omega)
  have e : mk4 (Si.ofS (mkOf (l.drop 0)) o) 0 = ((Si.ofS (mkOf l) o).1.1, (Si.ofS (mkOf l) o).1.2.1, (Si.ofS (mkOf l) o).1.2.2, (Si.ofS (mkOf l) o).2) := by
    rw [List.drop_zero]
    unfold mk4
    congr 3
    split
    · omega
    · rename_i hz
      unfold Si.ofS at hz ⊢
      split
      · rename_i h2; rw [if_pos h2] at hz; exact absurd h2 hz
      · rfl
  rw [e] at h
  exact Evk.of_eq h (fun k => rfl)
theorem fresh_in (s o lo : Int) (ab : List Int) (hab : ab.length ≤ 1048576) : ∀ (n j : Nat), j + n = ab.length → Evk (fun k => selvedgeref14_Fresh.l0 k s (j : Int) o lo ab) (decide (s > lo) && decide (wrap64 (s - 8) ≤ lo) && !(ab.drop j).contains s)
  | 0, j, h => Evk.step (Evk.ret _) (fun k => by
      show selvedgeref14_Fresh.l0 (k + 1) s (j : Int) o lo ab = _
      rw [selvedgeref14_Fresh.l0, if_neg (by omega), List.drop_eq_nil_of_le (by omega)]
      by_cases h1 : s > lo
      · rw [if_pos h1]; simp [h1]
      · rw [if_neg h1]; simp [h1])
  | n + 1, j, h => by
    have hj : j < ab.length := by omega
    have ih := fresh_in s o lo ab hab n (j + 1) (by omega)
    by_cases e : ab[j] = s
    · have hv : (decide (s > lo) && decide (wrap64 (s - 8) ≤ lo) && !(ab.drop j).contains s) = false := by
        rw [List.drop_eq_getElem_cons hj, List.contains_cons, e]; simp
      rw [hv]
      refine Evk.step (Evk.ret false) (fun k => ?_)
      show selvedgeref14_Fresh.l0 (k + 1) s (j : Int) o lo ab = _
      rw [selvedgeref14_Fresh.l0, if_pos (by omega), if_pos (by omega), rd_mem ab j hj, if_pos e]
    · have hv : (ab.drop j).contains s = (ab.drop (j + 1)).contains s := by
        rw [List.drop_eq_getElem_cons hj, List.contains_cons, beq_eq_false_iff_ne.2 (fun h => e h.symm), Bool.false_or]
      rw [hv]
      refine Evk.step ih (fun k => ?_)
      show selvedgeref14_Fresh.l0 (k + 1) s (j : Int) o lo ab = _
      rw [selvedgeref14_Fresh.l0, if_pos (by omega), if_pos (by omega), rd_mem ab j hj, if_neg e, w64 ((j : Int) + 1) (by omega) (by omega)]
      rfl
theorem above_le (l : List S54) (h2 : ∀ m ∈ l, m.f2.length ≤ 1048576) (o : Int) : (Si.ofS (mkOf l) o).1.2.2.length ≤ 1048576 := by
  by_cases h : 0 ≤ (Si.ofS (mkOf l) o).2
  · have hm := Si.ofS_mem o (mkOf l) h
    obtain ⟨m, hm, e⟩ := List.mem_map.1 hm
    rw [← e]; exact h2 m hm
  · rw [(Si.ofS_none o (mkOf l) h).1]; simp
theorem rfresh_ev (l : List S54) (hl : l.length ≤ 1048576) (h2 : ∀ m ∈ l, m.f2.length ≤ 1048576) (o s : Int) : Evk (fun k => selvedgeref14_Fresh.f k l o s) (Si.freshS (mkOf l) o s) := by
  unfold Si.freshS Si.freshR
  by_cases h1 : o < 1
  · have hv : (decide (o ≥ 1) && decide (o ≤ 64) && decide (s > (Si.ofS (mkOf l) o).1.2.1) && decide (wrap64 (s - 8) ≤ (Si.ofS (mkOf l) o).1.2.1) && !(Si.ofS (mkOf l) o).1.2.2.contains s) = false := by
      rw [decide_eq_false (by omega : ¬ o ≥ 1)]; rfl
    rw [hv]
    refine Evk.step (Evk.ret false) (fun k => ?_)
    show selvedgeref14_Fresh.f (k + 1) l o s = _
    unfold selvedgeref14_Fresh.f
    rw [if_pos h1, selvedgeref14_Fresh.j0, if_pos rfl]
  · by_cases h64 : o ≤ 64
    · rw [decide_eq_true (by omega : o ≥ 1), decide_eq_true h64, Bool.true_and, Bool.true_and]
      have hin := fresh_in s (Si.ofS (mkOf l) o).1.1 (Si.ofS (mkOf l) o).1.2.1 (Si.ofS (mkOf l) o).1.2.2 (above_le l h2 o) (Si.ofS (mkOf l) o).1.2.2.length 0 (by omega)
      rw [List.drop_zero] at hin
      have hb := Evk.bind (g := fun k (bt142 : Int × Int × List Int × Int) => selvedgeref14_Fresh.l0 k s 0 bt142.1 bt142.2.1 bt142.2.2.1) (mark_ev l hl o) hin
      refine Evk.step hb (fun k => ?_)
      show selvedgeref14_Fresh.f (k + 1) l o s = _
      unfold selvedgeref14_Fresh.f
      rw [if_neg h1, selvedgeref14_Fresh.j0, if_neg (by simp; omega)]
    · rw [decide_eq_false h64, Bool.and_false, Bool.false_and, Bool.false_and, Bool.false_and]
      refine Evk.step (Evk.ret false) (fun k => ?_)
      show selvedgeref14_Fresh.f (k + 1) l o s = _
      unfold selvedgeref14_Fresh.f
      rw [if_neg h1, selvedgeref14_Fresh.j0, if_pos (by simp; omega)]
def insF (b : Bool) (s : Int) (r : List Int) : List Int := if b then r else Si.insAt (fun x => decide (x > s)) s r
theorem note_l0 (l : List S54) (o s at0 o' lo : Int) (ab : List Int) (hab : ab.length ≤ 1048576) (R : List S54) : ∀ (n j : Nat) (b : Bool) (acc : List Int), j + n = ab.length → acc.length ≤ j + b.toNat → Evk (fun k => selvedgeref14_Note.j1 k l o at0 (acc ++ insF b s (ab.drop j)) o' lo ab) R → Evk (fun k => selvedgeref14_Note.l0 k l o s at0 acc b (j : Int) o' lo ab) R
  | 0, j, b, acc, h, ha, hn => Evk.step hn (fun k => by
      show selvedgeref14_Note.l0 (k + 1) l o s at0 acc b (j : Int) o' lo ab = _
      rw [selvedgeref14_Note.l0, if_neg (by omega), List.drop_eq_nil_of_le (by omega)]
      cases b with
      | true => rw [if_pos rfl]; simp [insF]
      | false => rw [if_neg (by decide), if_pos (by have h_ : acc.length ≤ j + 0 := ha; omega)]; rfl)
  | n + 1, j, b, acc, h, ha, hn => by
    have hj : j < ab.length := by omega
    rw [List.drop_eq_getElem_cons hj] at hn
    cases b with
    | true =>
      replace ha : acc.length ≤ j + 1 := ha
      have ih := note_l0 l o s at0 o' lo ab hab R n (j + 1) true (acc ++ [ab[j]]) (by omega) (by show (acc ++ [ab[j]]).length ≤ j + 1 + 1; simp; omega) (by
        have e : acc ++ [ab[j]] ++ insF true s (ab.drop (j + 1)) = acc ++ insF true s (ab[j] :: ab.drop (j + 1)) := by simp [insF]
        rw [e]; exact hn)
      refine Evk.step ih (fun k => ?_)
      show selvedgeref14_Note.l0 (k + 1) l o s at0 acc true (j : Int) o' lo ab = _
      rw [selvedgeref14_Note.l0, if_pos (by omega), if_pos rfl, if_pos (by omega), if_pos (by omega), rd_mem ab j hj, w64 ((j : Int) + 1) (by omega) (by omega)]
      rfl
    | false =>
      replace ha : acc.length ≤ j := ha
      have ei : insF false s (ab[j] :: ab.drop (j + 1)) = if ab[j] > s then s :: ab[j] :: ab.drop (j + 1) else ab[j] :: insF false s (ab.drop (j + 1)) := by
        show Si.insAt _ _ _ = _
        rw [Si.insAt_cons]
        by_cases hq : ab[j] > s
        · rw [if_pos (decide_eq_true hq), if_pos hq]
        · rw [if_neg (by simpa using hq), if_neg hq]; rfl
      rw [ei] at hn
      by_cases hq : ab[j] > s
      · rw [if_pos hq] at hn
        have ih := note_l0 l o s at0 o' lo ab hab R n (j + 1) true (acc ++ [s] ++ [ab[j]]) (by omega) (by show (acc ++ [s] ++ [ab[j]]).length ≤ j + 1 + 1; simp; omega) (by
          have e : acc ++ [s] ++ [ab[j]] ++ insF true s (ab.drop (j + 1)) = acc ++ s :: ab[j] :: ab.drop (j + 1) := by simp [insF]
          rw [e]; exact hn)
        refine Evk.step ih (fun k => ?_)
        show selvedgeref14_Note.l0 (k + 1) l o s at0 acc false (j : Int) o' lo ab = _
        rw [selvedgeref14_Note.l0, if_pos (by omega), if_neg (by decide), if_pos (by omega), rd_mem ab j hj, if_pos hq, if_pos (by omega), Option.bind_some, if_pos (by simp; omega), w64 ((j : Int) + 1) (by omega) (by omega)]
        rfl
      · rw [if_neg hq] at hn
        have ih := note_l0 l o s at0 o' lo ab hab R n (j + 1) false (acc ++ [ab[j]]) (by omega) (by show (acc ++ [ab[j]]).length ≤ j + 1 + 0; simp; omega) (by
          have e : acc ++ [ab[j]] ++ insF false s (ab.drop (j + 1)) = acc ++ ab[j] :: insF false s (ab.drop (j + 1)) := by simp
          rw [e]; exact hn)
        refine Evk.step ih (fun k => ?_)
        show selvedgeref14_Note.l0 (k + 1) l o s at0 acc false (j : Int) o' lo ab = _
        rw [selvedgeref14_Note.l0, if_pos (by omega), if_neg (by decide), if_pos (by omega), rd_mem ab j hj, if_neg hq, if_pos (by omega), w64 ((j : Int) + 1) (by omega) (by omega)]
        rfl
def small (v : Int) : Prop := -1099511627776 < v ∧ v < 1099511627776
theorem note_l1 (l : List S54) (o at0 o' : Int) (ab : List Int) (R : List S54) : ∀ (ab2 : List Int) (lo : Int), small lo → (∀ a ∈ ab2, small a) → Evk (fun k => selvedgeref14_Note.j3 k l o at0 (Si.lowP lo ab2).2 o' (Si.lowP lo ab2).1 ab) R → Evk (fun k => selvedgeref14_Note.l1 k l o at0 ab2 o' lo ab) R
  | [], lo, hlo, ha, hn => Evk.step hn (fun k => by
      show selvedgeref14_Note.l1 (k + 1) l o at0 [] o' lo ab = _
      rw [selvedgeref14_Note.l1, if_neg (by simp)]; rfl)
  | a :: r, lo, hlo, ha, hn => by
    obtain ⟨p1, p2⟩ := hlo
    obtain ⟨q1, q2⟩ := ha a (List.mem_cons_self ..)
    have e1 := w64 (a - 1) (by omega) (by omega)
    have e2 := w64 (lo + 1) (by omega) (by omega)
    rw [Si.lowP, e1, e2] at hn
    have er : rd (a :: r) 0 = a := rfl
    by_cases h : a = lo + 1
    · rw [if_pos (by omega), ← h] at hn
      have ih := note_l1 l o at0 o' ab R r a ⟨q1, q2⟩ (fun x hx => ha x (List.mem_cons_of_mem _ hx)) hn
      refine Evk.step ih (fun k => ?_)
      show selvedgeref14_Note.l1 (k + 1) l o at0 (a :: r) o' lo ab = _
      rw [selvedgeref14_Note.l1, if_pos (by simp), if_pos (by simp), er, e2, if_pos h, if_pos (by rw [List.length_cons]; omega)]
      rfl
    · rw [if_neg (by omega)] at hn
      refine Evk.step hn (fun k => ?_)
      show selvedgeref14_Note.l1 (k + 1) l o at0 (a :: r) o' lo ab = _
      rw [selvedgeref14_Note.l1, if_pos (by simp), if_pos (by simp), er, e2, if_neg h]
theorem note_l2s (l : List S54) (hl : l.length ≤ 1048576) (o : Int) (at0 : Nat) (m : S54) : ∀ (n i : Nat) (acc : List S54), i + n = l.length → acc.length ≤ i → Evk (fun k => selvedgeref14_Note.l2 k l o (at0 : Int) acc false (i : Int) m.f0 m.f1 m.f2) (acc ++ (l.set at0 m).drop i)
  | 0, i, acc, h, ha => Evk.step (Evk.ret _) (fun k => by
      show selvedgeref14_Note.l2 (k + 1) l o (at0 : Int) acc false (i : Int) m.f0 m.f1 m.f2 = _
      rw [selvedgeref14_Note.l2, if_neg (by omega), if_neg (by omega), List.drop_eq_nil_of_le (by simp; omega), List.append_nil])
  | n + 1, i, acc, h, ha => by
    have hi : i < l.length := by omega
    have hi' : i < (l.set at0 m).length := by simpa using hi
    rw [List.drop_eq_getElem_cons hi', List.getElem_set]
    by_cases e : at0 = i
    · rw [if_pos e]
      have ih := note_l2s l hl o at0 m n (i + 1) (acc ++ [m]) (by omega) (by simp; omega)
      rw [List.append_assoc] at ih
      refine Evk.step ih (fun k => ?_)
      show selvedgeref14_Note.l2 (k + 1) l o (at0 : Int) acc false (i : Int) m.f0 m.f1 m.f2 = _
      rw [selvedgeref14_Note.l2, if_pos (by omega), if_pos (by omega), if_pos (by omega), w64 ((i : Int) + 1) (by omega) (by omega)]
      rfl
    · rw [if_neg e]
      have ih := note_l2s l hl o at0 m n (i + 1) (acc ++ [l[i]]) (by omega) (by simp; omega)
      rw [List.append_assoc] at ih
      refine Evk.step ih (fun k => ?_)
      show selvedgeref14_Note.l2 (k + 1) l o (at0 : Int) acc false (i : Int) m.f0 m.f1 m.f2 = _
      rw [selvedgeref14_Note.l2, if_pos (by omega), if_neg (by omega), if_neg (by omega), if_pos (by omega), if_pos (by omega), rd54_eq l i hi, w64 ((i : Int) + 1) (by omega) (by omega)]
      rfl
def insG (b : Bool) (o : Int) (m : S54) (r : List S54) : List S54 := if b then r else Si.insAt (fun x => decide (x.f0 > o)) m r
theorem note_l2i (l : List S54) (hl : l.length ≤ 1048576) (o at0 : Int) (hat : at0 < 0) (m : S54) : ∀ (n i : Nat) (b : Bool) (acc : List S54), i + n = l.length → acc.length ≤ i + b.toNat → Evk (fun k => selvedgeref14_Note.l2 k l o at0 acc b (i : Int) m.f0 m.f1 m.f2) (acc ++ insG b o m (l.drop i))
  | 0, i, b, acc, h, ha => Evk.step (Evk.ret _) (fun k => by
      show selvedgeref14_Note.l2 (k + 1) l o at0 acc b (i : Int) m.f0 m.f1 m.f2 = _
      rw [selvedgeref14_Note.l2, if_neg (by omega), if_pos hat, List.drop_eq_nil_of_le (by omega)]
      cases b with
      | true => rw [if_pos rfl]; simp [insG]
      | false => rw [if_neg (by decide), if_pos (by have h_ : acc.length ≤ i + 0 := ha; omega)]; rfl)
  | n + 1, i, b, acc, h, ha => by
    have hi : i < l.length := by omega
    rw [List.drop_eq_getElem_cons hi]
    cases b with
    | true =>
      replace ha : acc.length ≤ i + 1 := ha
      have ih := note_l2i l hl o at0 hat m n (i + 1) true (acc ++ [l[i]]) (by omega) (by show (acc ++ [l[i]]).length ≤ i + 1 + 1; simp; omega)
      rw [List.append_assoc] at ih
      refine Evk.step ih (fun k => ?_)
      show selvedgeref14_Note.l2 (k + 1) l o at0 acc true (i : Int) m.f0 m.f1 m.f2 = _
      rw [selvedgeref14_Note.l2, if_pos (by omega), if_neg (by omega), if_pos hat, if_pos rfl, if_pos (by omega), if_pos (by omega), rd54_eq l i hi, w64 ((i : Int) + 1) (by omega) (by omega)]
      rfl
    | false =>
      replace ha : acc.length ≤ i := ha
      have ei : insG false o m (l[i] :: l.drop (i + 1)) = if (l[i]).f0 > o then m :: l[i] :: l.drop (i + 1) else l[i] :: insG false o m (l.drop (i + 1)) := by
        show Si.insAt _ _ _ = _
        rw [Si.insAt_cons]
        by_cases hq : (l[i]).f0 > o
        · rw [if_pos (decide_eq_true hq), if_pos hq]
        · rw [if_neg (by simpa using hq), if_neg hq]; rfl
      rw [ei]
      by_cases hq : (l[i]).f0 > o
      · rw [if_pos hq]
        have ih := note_l2i l hl o at0 hat m n (i + 1) true (acc ++ [m] ++ [l[i]]) (by omega) (by show (acc ++ [m] ++ [l[i]]).length ≤ i + 1 + 1; simp; omega)
        have e : acc ++ [m] ++ [l[i]] ++ insG true o m (l.drop (i + 1)) = acc ++ m :: l[i] :: l.drop (i + 1) := by simp [insG]
        rw [e] at ih
        refine Evk.step ih (fun k => ?_)
        show selvedgeref14_Note.l2 (k + 1) l o at0 acc false (i : Int) m.f0 m.f1 m.f2 = _
        rw [selvedgeref14_Note.l2, if_pos (by omega), if_neg (by omega), if_pos hat, if_neg (by decide), if_pos (by omega), rd54_eq l i hi, if_pos hq, if_pos (by omega), Option.bind_some, if_pos (by simp; omega), w64 ((i : Int) + 1) (by omega) (by omega)]
        rfl
      · rw [if_neg hq]
        have ih := note_l2i l hl o at0 hat m n (i + 1) false (acc ++ [l[i]]) (by omega) (by show (acc ++ [l[i]]).length ≤ i + 1 + 0; simp; omega)
        rw [List.append_assoc] at ih
        refine Evk.step ih (fun k => ?_)
        show selvedgeref14_Note.l2 (k + 1) l o at0 acc false (i : Int) m.f0 m.f1 m.f2 = _
        rw [selvedgeref14_Note.l2, if_pos (by omega), if_neg (by omega), if_pos hat, if_neg (by decide), if_pos (by omega), rd54_eq l i hi, if_neg hq, if_pos (by omega), w64 ((i : Int) + 1) (by omega) (by omega)]
        rfl
def toS (x : Si.MS) : S54 := ⟨x.1, x.2.1, x.2.2⟩
theorem mkTo_of (l : List S54) : mkTo (mkOf l) = l := by
  unfold mkOf mkTo
  rw [List.map_map]
  exact List.map_id _
theorem mkTo_ins (o : Int) (m : Si.MS) : ∀ ms : List Si.MS, mkTo (Si.insAt (fun x => decide (x.1 > o)) m ms) = Si.insAt (fun x => decide (x.f0 > o)) (toS m) (mkTo ms)
  | [] => rfl
  | a :: r => by
    have ih := mkTo_ins o m r
    rw [Si.insAt_cons, show mkTo (a :: r) = toS a :: mkTo r from rfl, Si.insAt_cons]
    by_cases hq : a.1 > o
    · rw [if_pos (decide_eq_true hq), if_pos (show decide ((toS a).f0 > o) = true from decide_eq_true hq)]; rfl
    · rw [if_neg (by simpa using hq), if_neg (show ¬ decide ((toS a).f0 > o) = true by simpa [toS] using hq)]
      show toS a :: mkTo _ = _
      rw [ih]
theorem of_neg (ms : List Si.MS) (o : Int) (h : ¬ 0 ≤ (Si.ofS ms o).2) : (Si.ofS ms o).2 = -1 := by
  unfold Si.ofS at h ⊢
  split
  · rename_i h2; rw [if_pos h2] at h; exact absurd h2 h
  · rfl
theorem low_of (l : List S54) (hb : ∀ m ∈ l, small m.f1 ∧ ∀ v ∈ m.f2, small v) (o : Int) : small (Si.ofS (mkOf l) o).1.2.1 ∧ ∀ v ∈ (Si.ofS (mkOf l) o).1.2.2, small v := by
  by_cases h : 0 ≤ (Si.ofS (mkOf l) o).2
  · have hm := Si.ofS_mem o (mkOf l) h
    obtain ⟨m, hm, e⟩ := List.mem_map.1 hm
    rw [← e]; exact hb m hm
  · rw [(Si.ofS_none o (mkOf l) h).1]
    exact ⟨(⟨by decide, by decide⟩ : small 0), fun v hv => by simp at hv⟩
theorem rnote_ev (l : List S54) (hl : l.length ≤ 1048576) (h2 : ∀ m ∈ l, m.f2.length ≤ 1048576) (hb : ∀ m ∈ l, small m.f1 ∧ ∀ v ∈ m.f2, small v) (o s : Int) (hs : small s) : Evk (fun k => selvedgeref14_Note.f k l o s) (mkTo (Si.noteS (mkOf l) o s)) := by
  have hfr := rfresh_ev l hl h2 o s
  unfold Si.noteS
  cases hf : Si.freshS (mkOf l) o s with
  | false =>
    rw [hf] at hfr
    rw [if_neg (by decide), mkTo_of]
    exact Evk.bind hfr (Evk.of_eq (Evk.ret l) (fun k => by rw [if_neg (by decide)]))
  | true =>
    rw [hf] at hfr
    rw [if_pos rfl]
    refine Evk.bind (g := fun k (t150 : Bool) => if t150 = true then ((selvedgeref14_mark.f k l o).bind fun bt151 => (selvedgeref14_Note.l0 k l o s bt151.2.2.2 ([] : List Int) false 0 bt151.1 bt151.2.1 bt151.2.2.1)) else (some l)) hfr ?_
    refine Evk.of_eq (g := fun k => (selvedgeref14_mark.f k l o).bind fun bt151 => (selvedgeref14_Note.l0 k l o s bt151.2.2.2 ([] : List Int) false 0 bt151.1 bt151.2.1 bt151.2.2.1)) ?_ (fun k => if_pos rfl)
    refine Evk.bind (mark_ev l hl o) ?_
    obtain ⟨hlo, hab⟩ := low_of l hb o
    refine note_l0 l o s _ _ _ _ (above_le l h2 o) _ (Si.ofS (mkOf l) o).1.2.2.length 0 false [] (by omega) (by simp) ?_
    rw [List.drop_zero, List.nil_append]
    refine Evk.step (g := fun k => selvedgeref14_Note.l1 k l o (Si.ofS (mkOf l) o).2 (insF false s (Si.ofS (mkOf l) o).1.2.2) (Si.ofS (mkOf l) o).1.1 (Si.ofS (mkOf l) o).1.2.1 (Si.ofS (mkOf l) o).1.2.2) ?_ (fun k => by rw [selvedgeref14_Note.j1])
    refine note_l1 l o _ _ _ _ _ _ hlo (fun a ha => ?_) ?_
    · have ha' : a ∈ Si.insAt (fun x => decide (x > s)) s (Si.ofS (mkOf l) o).1.2.2 := ha
      rw [Si.mem_insAt] at ha'
      rcases ha' with rfl | ha'
      · exact hs
      · exact hab a ha'
    · refine Evk.step (g := fun k => selvedgeref14_Note.l2 k l o (Si.ofS (mkOf l) o).2 ([] : List S54) false 0 (toS (Si.noteM (mkOf l) o s)).f0 (toS (Si.noteM (mkOf l) o s)).f1 (toS (Si.noteM (mkOf l) o s)).f2) ?_ (fun k => by rw [selvedgeref14_Note.j3]; rfl)
      by_cases hat : 0 ≤ (Si.ofS (mkOf l) o).2
      · rw [if_pos hat]
        obtain ⟨a, ha⟩ : ∃ a : Nat, (Si.ofS (mkOf l) o).2 = (a : Int) := ⟨_, (Int.toNat_of_nonneg hat).symm⟩
        rw [ha, Int.toNat_natCast]
        have h := note_l2s l hl o a (toS (Si.noteM (mkOf l) o s)) l.length 0 [] (by omega) (by simp)
        rw [List.nil_append, List.drop_zero] at h
        have e : mkTo ((mkOf l).set a (Si.noteM (mkOf l) o s)) = l.set a (toS (Si.noteM (mkOf l) o s)) := by
          unfold mkTo
          rw [List.map_set]
          congr 1
          exact mkTo_of l
        rw [e]
        exact h
      · rw [if_neg hat]
        have h := note_l2i l hl o (Si.ofS (mkOf l) o).2 (by rw [of_neg _ _ hat]; decide) (toS (Si.noteM (mkOf l) o s)) l.length 0 false [] (by omega) (by simp)
        rw [List.nil_append, List.drop_zero] at h
        rw [mkTo_ins, mkTo_of]
        exact h
theorem ints_l (a : List Int) (ha : a.length ≤ 4611686018427387900) : ∀ (n i : Nat), i + n = a.length → Evk (fun k => selvedgeref05_Ints.l0 k a a (i : Int)) true
  | 0, i, h => Evk.step (Evk.ret true) (fun k => by
      show selvedgeref05_Ints.l0 (k + 1) a a (i : Int) = _
      rw [selvedgeref05_Ints.l0, if_neg (by omega)])
  | n + 1, i, h => Evk.step (ints_l a ha n (i + 1) (by omega)) (fun k => by
      show selvedgeref05_Ints.l0 (k + 1) a a (i : Int) = _
      rw [selvedgeref05_Ints.l0, if_pos (by omega), if_pos (by omega), if_pos (by omega), if_pos rfl, w64 ((i : Int) + 1) (by omega) (by omega)]
      rfl)
theorem ints_ev (a : List Int) (ha : a.length ≤ 4611686018427387900) : Evk (fun k => selvedgeref05_Ints.f k a a) true := Evk.of_eq (ints_l a ha a.length 0 (by omega)) (fun k => by
  show selvedgeref05_Ints.f k a a = _
  unfold selvedgeref05_Ints.f
  rw [if_pos rfl]; rfl)
theorem same_l (l : List S54) (hl : l.length ≤ 4611686018427387900) (h2 : ∀ m ∈ l, m.f2.length ≤ 4611686018427387900) : ∀ (n i : Nat), i + n = l.length → Evk (fun k => selvedgeref14_Same.l0 k l l (i : Int)) true
  | 0, i, h => Evk.step (Evk.ret true) (fun k => by
      show selvedgeref14_Same.l0 (k + 1) l l (i : Int) = _
      rw [selvedgeref14_Same.l0, if_neg (by omega)])
  | n + 1, i, h => by
    have hi : i < l.length := by omega
    have ih := same_l l hl h2 n (i + 1) (by omega)
    have hv := ints_ev (l[i]).f2 (h2 _ (List.getElem_mem hi))
    have hb := Evk.bind (g := fun k (t134 : Bool) => if t134 = true then selvedgeref14_Same.l0 k l l ((i + 1 : Nat) : Int) else some false) hv (Evk.of_eq ih (fun k => if_pos rfl))
    refine Evk.step hb (fun k => ?_)
    show selvedgeref14_Same.l0 (k + 1) l l (i : Int) = _
    rw [selvedgeref14_Same.l0, if_pos (by omega), if_pos (by omega), if_pos (by omega), rd54_eq l i hi, if_pos rfl, if_pos rfl, w64 ((i : Int) + 1) (by omega) (by omega)]
    rfl
theorem same_ev (l : List S54) (hl : l.length ≤ 4611686018427387900) (h2 : ∀ m ∈ l, m.f2.length ≤ 4611686018427387900) : Evk (fun k => selvedgeref14_Same.f k l l) true := Evk.of_eq (same_l l hl h2 l.length 0 (by omega)) (fun k => by
  show selvedgeref14_Same.f k l l = _
  unfold selvedgeref14_Same.f
  rw [if_pos rfl]; rfl)
def headB (o lo : Int) : Bool := decide (1 ≤ o) && decide (o ≤ 64) && decide (0 ≤ lo)
def abB (lo : Int) (ab : List Int) : Nat → Int → Bool
  | 0, _ => true
  | n + 1, j => if rd ab j - lo ≤ 1 then false else if rd ab j - lo > 8 then false else if j > 0 then (if rd ab (j - 1) ≥ rd ab j then false else abB lo ab n (j + 1)) else abB lo ab n (j + 1)
theorem or_in (o lo : Int) (ab : List Int) (hlo : small lo) (hab : ∀ v ∈ ab, small v) (hl : ab.length ≤ 1048576) : ∀ (n j : Nat), j + n = ab.length → Evk (fun k => order_right.l0 k ab (ab.length : Int) (j : Int) o lo ab) (abB lo ab n (j : Int))
  | 0, j, h => Evk.step (Evk.ret true) (fun k => by
      show order_right.l0 (k + 1) ab (ab.length : Int) (j : Int) o lo ab = _
      rw [order_right.l0, if_neg (by omega)])
  | n + 1, j, h => by
    have hj : j < ab.length := by omega
    have ih := or_in o lo ab hlo hab hl n (j + 1) (by omega)
    obtain ⟨p1, p2⟩ := hlo
    obtain ⟨q1, q2⟩ := hab _ (List.getElem_mem hj)
    rw [← rd_mem ab j hj] at q1 q2
    have ew := w64 (rd ab (j : Int) - lo) (by omega) (by omega)
    have ej := w64 ((j : Int) + 1) (by omega) (by omega)
    have ej1 := w64 ((j : Int) - 1) (by omega) (by omega)
    rw [abB]
    by_cases h1 : rd ab (j : Int) - lo ≤ 1
    · rw [if_pos h1]
      refine Evk.step (Evk.ret false) (fun k => ?_)
      show order_right.l0 (k + 1) ab (ab.length : Int) (j : Int) o lo ab = _
      rw [order_right.l0, if_pos (by omega), if_pos (by omega), if_pos (by omega), ew, if_pos h1]
    · rw [if_neg h1]
      by_cases h8 : rd ab (j : Int) - lo > 8
      · rw [if_pos h8]
        refine Evk.step (Evk.ret false) (fun k => ?_)
        show order_right.l0 (k + 1) ab (ab.length : Int) (j : Int) o lo ab = _
        rw [order_right.l0, if_pos (by omega), if_pos (by omega), if_pos (by omega), ew, if_neg h1, if_pos h8]
      · rw [if_neg h8]
        by_cases h0 : (j : Int) > 0
        · rw [if_pos h0]
          by_cases hp : rd ab ((j : Int) - 1) ≥ rd ab (j : Int)
          · rw [if_pos hp]
            refine Evk.step (Evk.ret false) (fun k => ?_)
            show order_right.l0 (k + 1) ab (ab.length : Int) (j : Int) o lo ab = _
            rw [order_right.l0, if_pos (by omega), if_pos (by omega), if_pos (by omega), ew, if_neg h1, if_neg h8, if_pos h0, ej1, if_pos (by omega), if_pos (by omega), if_pos hp]
          · rw [if_neg hp]
            refine Evk.step ih (fun k => ?_)
            show order_right.l0 (k + 1) ab (ab.length : Int) (j : Int) o lo ab = _
            rw [order_right.l0, if_pos (by omega), if_pos (by omega), if_pos (by omega), ew, if_neg h1, if_neg h8, if_pos h0, ej1, if_pos (by omega), if_pos (by omega), if_neg hp, ej]
            rfl
        · rw [if_neg h0]
          refine Evk.step ih (fun k => ?_)
          show order_right.l0 (k + 1) ab (ab.length : Int) (j : Int) o lo ab = _
          rw [order_right.l0, if_pos (by omega), if_pos (by omega), if_pos (by omega), ew, if_neg h1, if_neg h8, if_neg h0, ej]
          rfl
theorem or_ev (o lo : Int) (ab : List Int) (hlo : small lo) (hab : ∀ v ∈ ab, small v) (hl : ab.length ≤ 1048576) : Evk (fun k => order_right.f k o lo ab) (headB o lo && abB lo ab ab.length 0) := by
  have hin := or_in o lo ab hlo hab hl ab.length 0 (by omega)
  have hf : Evk (fun k => order_right.j0 k true o lo ab) false := Evk.step (Evk.ret false) (fun k => by rw [order_right.j0, if_pos rfl])
  have ht : Evk (fun k => order_right.j0 k false o lo ab) (abB lo ab ab.length 0) := Evk.step hin (fun k => by rw [order_right.j0, if_neg (by decide)]; rfl)
  unfold headB order_right.f
  by_cases h1 : o < 1
  · rw [decide_eq_false (by omega : ¬ 1 ≤ o)]
    exact Evk.of_eq hf (fun k => by rw [if_pos h1])
  · rw [decide_eq_true (by omega : 1 ≤ o)]
    by_cases h2 : o > 64
    · rw [decide_eq_false (by omega : ¬ o ≤ 64)]
      exact Evk.of_eq hf (fun k => by rw [if_neg h1, if_pos h2])
    · rw [decide_eq_true (by omega : o ≤ 64)]
      by_cases h3 : lo < 0
      · rw [decide_eq_false (by omega : ¬ 0 ≤ lo)]
        exact Evk.of_eq hf (fun k => by rw [if_neg h1, if_neg h2, decide_eq_true h3])
      · rw [decide_eq_true (by omega : 0 ≤ lo)]
        exact Evk.of_eq ht (fun k => by rw [if_neg h1, if_neg h2, decide_eq_false h3])
def mB (l : List S54) : Nat → Int → Bool
  | 0, _ => true
  | n + 1, i => headB (rd_T54 l i).f0 (rd_T54 l i).f1 && (if i > 0 then !decide ((rd_T54 l (i - 1)).f0 ≥ (rd_T54 l i).f0) else true) && (abB (rd_T54 l i).f1 (rd_T54 l i).f2 (rd_T54 l i).f2.length 0 && mB l n (i + 1))
theorem oR_l (l : List S54) (hl : l.length ≤ 1048576) (h2 : ∀ m ∈ l, m.f2.length ≤ 1048576) (hb : ∀ m ∈ l, small m.f1 ∧ ∀ v ∈ m.f2, small v) : ∀ (n i : Nat), i + n = l.length → Evk (fun k => order_Right.l0 k l l (l.length : Int) (i : Int)) (mB l n (i : Int))
  | 0, i, h => Evk.step (Evk.ret true) (fun k => by
      show order_Right.l0 (k + 1) l l (l.length : Int) (i : Int) = _
      rw [order_Right.l0, if_neg (by omega)])
  | n + 1, i, h => by
    have hi : i < l.length := by omega
    have ih := oR_l l hl h2 hb n (i + 1) (by omega)
    have e := rd54_eq l i hi
    have hm : rd_T54 l (i : Int) ∈ l := by rw [e]; exact List.getElem_mem hi
    have hr := or_ev (rd_T54 l (i : Int)).f0 (rd_T54 l (i : Int)).f1 (rd_T54 l (i : Int)).f2 (hb _ hm).1 (hb _ hm).2 (h2 _ hm)
    have ei := w64 ((i : Int) + 1) (by omega) (by omega)
    have ei1 := w64 ((i : Int) - 1) (by omega) (by omega)
    have key : Evk (fun k => if (headB (rd_T54 l (i : Int)).f0 (rd_T54 l (i : Int)).f1 && abB (rd_T54 l (i : Int)).f1 (rd_T54 l (i : Int)).f2 (rd_T54 l (i : Int)).f2.length 0) = true then (if (i : Int) > 0 then (if 0 ≤ (wrap64 ((i : Int) - 1)) then (if (wrap64 ((i : Int) - 1)) < (l.length : Int) then (if ((rd_T54 l (wrap64 ((i : Int) - 1))).f0) ≥ ((rd_T54 l (i : Int)).f0) then (some false) else (order_Right.l0 k l l (l.length : Int) (wrap64 ((i : Int) + 1)))) else (none)) else (none)) else (order_Right.l0 k l l (l.length : Int) (wrap64 ((i : Int) + 1)))) else (some false)) (mB l (n + 1) (i : Int)) := by
      rw [mB]
      cases hA : headB (rd_T54 l (i : Int)).f0 (rd_T54 l (i : Int)).f1 with
      | false => exact Evk.of_eq (Evk.ret false) (fun k => by rw [if_neg (by simp)])
      | true =>
        cases hB : abB (rd_T54 l (i : Int)).f1 (rd_T54 l (i : Int)).f2 (rd_T54 l (i : Int)).f2.length 0 with
        | false =>
          rw [show ∀ x : Bool, (true && x && (false && mB l n ((i : Int) + 1))) = false from fun x => by simp]
          exact Evk.of_eq (Evk.ret false) (fun k => by rw [if_neg (by simp)])
        | true =>
          rw [Bool.true_and, Bool.true_and]
          by_cases h0 : (i : Int) > 0
          · rw [if_pos h0]
            by_cases hp : (rd_T54 l ((i : Int) - 1)).f0 ≥ (rd_T54 l (i : Int)).f0
            · rw [decide_eq_true hp]
              exact Evk.of_eq (Evk.ret false) (fun k => by rw [if_pos (by rfl), ei1, if_pos h0, if_pos (by omega), if_pos (by omega), if_pos hp])
            · rw [decide_eq_false hp]
              exact Evk.of_eq ih (fun k => by rw [if_pos (by rfl), ei1, if_pos h0, if_pos (by omega), if_pos (by omega), if_neg hp, ei]; rfl)
          · rw [if_neg h0]
            exact Evk.of_eq ih (fun k => by rw [if_pos (by rfl), if_neg h0, ei]; rfl)
    refine Evk.step (Evk.bind (g := fun k (t106 : Bool) => if t106 = true then (if (i : Int) > 0 then (if 0 ≤ (wrap64 ((i : Int) - 1)) then (if (wrap64 ((i : Int) - 1)) < (l.length : Int) then (if ((rd_T54 l (wrap64 ((i : Int) - 1))).f0) ≥ ((rd_T54 l (i : Int)).f0) then (some false) else (order_Right.l0 k l l (l.length : Int) (wrap64 ((i : Int) + 1)))) else (none)) else (none)) else (order_Right.l0 k l l (l.length : Int) (wrap64 ((i : Int) + 1)))) else (some false)) hr key) (fun k => ?_)
    show order_Right.l0 (k + 1) l l (l.length : Int) (i : Int) = _
    rw [order_Right.l0, if_pos (by omega), if_pos (by omega), if_pos (by omega)]
theorem rR_in (l : List S54) (i : Nat) (hi : i < l.length) (hl : l.length ≤ 1048576) (o lo : Int) (ab : List Int) (hlo : small lo) (hab : ∀ v ∈ ab, small v) (hal : ab.length ≤ 1048576) (R : Bool) (hn : Evk (fun k => selvedgeref14_Right.l0 k l ((i + 1 : Nat) : Int)) R) : ∀ (n j : Nat), j + n = ab.length → Evk (fun k => selvedgeref14_Right.l1 k l (i : Int) (j : Int) o lo ab) (abB lo ab n (j : Int) && R)
  | 0, j, h => by
    rw [abB, Bool.true_and]
    exact Evk.step hn (fun k => by
      show selvedgeref14_Right.l1 (k + 1) l (i : Int) (j : Int) o lo ab = _
      rw [selvedgeref14_Right.l1, if_neg (by omega), w64 ((i : Int) + 1) (by omega) (by omega)]; rfl)
  | n + 1, j, h => by
    have hj : j < ab.length := by omega
    have ih := rR_in l i hi hl o lo ab hlo hab hal R hn n (j + 1) (by omega)
    obtain ⟨p1, p2⟩ := hlo
    obtain ⟨q1, q2⟩ := hab _ (List.getElem_mem hj)
    rw [← rd_mem ab j hj] at q1 q2
    have ew := w64 (rd ab (j : Int) - lo) (by omega) (by omega)
    have ej := w64 ((j : Int) + 1) (by omega) (by omega)
    have ej1 := w64 ((j : Int) - 1) (by omega) (by omega)
    rw [abB]
    by_cases h1 : rd ab (j : Int) - lo ≤ 1
    · rw [if_pos h1, Bool.false_and]
      refine Evk.step (Evk.ret false) (fun k => ?_)
      show selvedgeref14_Right.l1 (k + 1) l (i : Int) (j : Int) o lo ab = _
      rw [selvedgeref14_Right.l1, if_pos (by omega), if_pos (by omega), ew, if_pos (by omega)]
    · rw [if_neg h1]
      by_cases h8 : rd ab (j : Int) - lo > 8
      · rw [if_pos h8, Bool.false_and]
        refine Evk.step (Evk.ret false) (fun k => ?_)
        show selvedgeref14_Right.l1 (k + 1) l (i : Int) (j : Int) o lo ab = _
        rw [selvedgeref14_Right.l1, if_pos (by omega), if_pos (by omega), ew, if_neg (by omega), if_pos h8]
      · rw [if_neg h8]
        by_cases h0 : (j : Int) > 0
        · rw [if_pos h0]
          by_cases hp : rd ab ((j : Int) - 1) ≥ rd ab (j : Int)
          · rw [if_pos hp, Bool.false_and]
            refine Evk.step (Evk.ret false) (fun k => ?_)
            show selvedgeref14_Right.l1 (k + 1) l (i : Int) (j : Int) o lo ab = _
            rw [selvedgeref14_Right.l1, if_pos (by omega), if_pos (by omega), ew, if_neg (by omega), if_neg h8, if_pos h0, ej1, if_pos (by omega), if_pos (by omega), if_pos hp]
          · rw [if_neg hp]
            refine Evk.step ih (fun k => ?_)
            show selvedgeref14_Right.l1 (k + 1) l (i : Int) (j : Int) o lo ab = _
            rw [selvedgeref14_Right.l1, if_pos (by omega), if_pos (by omega), ew, if_neg (by omega), if_neg h8, if_pos h0, ej1, if_pos (by omega), if_pos (by omega), if_neg hp, ej]
            rfl
        · rw [if_neg h0]
          refine Evk.step ih (fun k => ?_)
          show selvedgeref14_Right.l1 (k + 1) l (i : Int) (j : Int) o lo ab = _
          rw [selvedgeref14_Right.l1, if_pos (by omega), if_pos (by omega), ew, if_neg (by omega), if_neg h8, if_neg h0, ej]
          rfl
theorem rR_l (l : List S54) (hl : l.length ≤ 1048576) (h2 : ∀ m ∈ l, m.f2.length ≤ 1048576) (hb : ∀ m ∈ l, small m.f1 ∧ ∀ v ∈ m.f2, small v) : ∀ (n i : Nat), i + n = l.length → Evk (fun k => selvedgeref14_Right.l0 k l (i : Int)) (mB l n (i : Int))
  | 0, i, h => Evk.step (Evk.ret true) (fun k => by
      show selvedgeref14_Right.l0 (k + 1) l (i : Int) = _
      rw [selvedgeref14_Right.l0, if_neg (by omega)])
  | n + 1, i, h => by
    have hi : i < l.length := by omega
    have ih := rR_l l hl h2 hb n (i + 1) (by omega)
    have e := rd54_eq l i hi
    have hm : rd_T54 l (i : Int) ∈ l := by rw [e]; exact List.getElem_mem hi
    have hin := rR_in l i hi hl (rd_T54 l (i : Int)).f0 (rd_T54 l (i : Int)).f1 (rd_T54 l (i : Int)).f2 (hb _ hm).1 (hb _ hm).2 (h2 _ hm) _ ih (rd_T54 l (i : Int)).f2.length 0 (by omega)
    have ei1 := w64 ((i : Int) - 1) (by omega) (by omega)
    have jf : Evk (fun k => selvedgeref14_Right.j1 k l (i : Int) true (rd_T54 l (i : Int)).f0 (rd_T54 l (i : Int)).f1 (rd_T54 l (i : Int)).f2) false := Evk.step (Evk.ret false) (fun k => by rw [selvedgeref14_Right.j1, if_pos rfl])
    have jt : Evk (fun k => selvedgeref14_Right.j1 k l (i : Int) false (rd_T54 l (i : Int)).f0 (rd_T54 l (i : Int)).f1 (rd_T54 l (i : Int)).f2) (abB (rd_T54 l (i : Int)).f1 (rd_T54 l (i : Int)).f2 (rd_T54 l (i : Int)).f2.length 0 && mB l n ((i + 1 : Nat) : Int)) := Evk.step hin (fun k => by rw [selvedgeref14_Right.j1, if_neg (by decide)]; rfl)
    rw [mB, headB]
    by_cases h1 : (rd_T54 l (i : Int)).f0 < 1
    · rw [decide_eq_false (by omega : ¬ 1 ≤ (rd_T54 l (i : Int)).f0), Bool.false_and, Bool.false_and, Bool.false_and, Bool.false_and]
      exact Evk.step jf (fun k => by
        show selvedgeref14_Right.l0 (k + 1) l (i : Int) = _
        rw [selvedgeref14_Right.l0, if_pos (by omega), if_pos (by omega), if_pos h1])
    · rw [decide_eq_true (by omega : 1 ≤ (rd_T54 l (i : Int)).f0), Bool.true_and]
      by_cases h64 : (rd_T54 l (i : Int)).f0 > 64
      · rw [decide_eq_false (by omega : ¬ (rd_T54 l (i : Int)).f0 ≤ 64), Bool.false_and, Bool.false_and, Bool.false_and]
        exact Evk.step jf (fun k => by
          show selvedgeref14_Right.l0 (k + 1) l (i : Int) = _
          rw [selvedgeref14_Right.l0, if_pos (by omega), if_pos (by omega), if_neg h1, if_pos h64])
      · rw [decide_eq_true (by omega : (rd_T54 l (i : Int)).f0 ≤ 64), Bool.true_and]
        by_cases h3 : (rd_T54 l (i : Int)).f1 < 0
        · rw [decide_eq_false (by omega : ¬ 0 ≤ (rd_T54 l (i : Int)).f1), Bool.false_and, Bool.false_and]
          exact Evk.step jf (fun k => by
            show selvedgeref14_Right.l0 (k + 1) l (i : Int) = _
            rw [selvedgeref14_Right.l0, if_pos (by omega), if_pos (by omega), if_neg h1, if_neg h64, if_pos h3])
        · rw [decide_eq_true (by omega : 0 ≤ (rd_T54 l (i : Int)).f1), Bool.true_and]
          by_cases h0 : (i : Int) > 0
          · rw [if_pos h0]
            by_cases hp : (rd_T54 l ((i : Int) - 1)).f0 ≥ (rd_T54 l (i : Int)).f0
            · rw [decide_eq_true hp, Bool.not_true, Bool.false_and]
              exact Evk.step jf (fun k => by
                show selvedgeref14_Right.l0 (k + 1) l (i : Int) = _
                rw [selvedgeref14_Right.l0, if_pos (by omega), if_pos (by omega), if_neg h1, if_neg h64, if_neg h3, if_pos h0, ei1, if_pos (by omega), if_pos (by omega), decide_eq_true hp])
            · rw [decide_eq_false hp, Bool.not_false, Bool.true_and]
              exact Evk.step jt (fun k => by
                show selvedgeref14_Right.l0 (k + 1) l (i : Int) = _
                rw [selvedgeref14_Right.l0, if_pos (by omega), if_pos (by omega), if_neg h1, if_neg h64, if_neg h3, if_pos h0, ei1, if_pos (by omega), if_pos (by omega), decide_eq_false hp])
          · rw [if_neg h0, Bool.true_and]
            exact Evk.step jt (fun k => by
              show selvedgeref14_Right.l0 (k + 1) l (i : Int) = _
              rw [selvedgeref14_Right.l0, if_pos (by omega), if_pos (by omega), if_neg h1, if_neg h64, if_neg h3, if_neg h0])
theorem ones (l : List Int) : (l.map (fun _ : Int => 1)).sum = l.length := by
  induction l with
  | nil => rfl
  | cons a r ih => simp only [List.map_cons, List.sum_cons, List.length_cons, ih]; omega
theorem bulk : ∀ (l : List S54), l.length ≤ (l.map B54).sum ∧ ∀ m ∈ l, m.f2.length ≤ (l.map B54).sum
  | [] => ⟨Nat.le_refl _, fun m hm => by simp at hm⟩
  | a :: r => by
    obtain ⟨h1, h2⟩ := bulk r
    have e : B54 a = 1 + 1 + ((a.f2.map (fun _ : Int => 1)).sum + 1) + 1 := rfl
    rw [ones] at e
    simp only [List.map_cons, List.sum_cons, List.length_cons, List.mem_cons]
    refine ⟨by omega, fun m hm => ?_⟩
    rcases hm with rfl | hm
    · omega
    · have := h2 m hm; omega
theorem lowP_len : ∀ (l : List Int) (lo : Int), (Si.lowP lo l).2.length ≤ l.length
  | [], lo => Nat.le_refl _
  | a :: r, lo => by
    rw [Si.lowP]
    split
    · have := lowP_len r (wrap64 (lo + 1)); simp; omega
    · exact Nat.le_refl _
theorem insAt_len {α : Type} (p : α → Bool) (x : α) : ∀ l : List α, (Si.insAt p x l).length = l.length + 1
  | [] => rfl
  | a :: r => by
    rw [Si.insAt_cons]
    split
    · rfl
    · rw [List.length_cons, insAt_len p x r]; rfl
theorem OrderMarks : selvedgelaw14_OrderMarks.Pure := by
  intro l o s _ _ _ hsum
  have hsum' : (l.map B54).sum + 1 + 1 + 1 ≤ 1048576 := hsum
  obtain ⟨hl0, h20⟩ := bulk l
  have hl : l.length ≤ 1048576 := by omega
  have h2 : ∀ m ∈ l, m.f2.length ≤ 1048576 := fun m hm => by have := h20 m hm; omega
  have hfew := few_ev l hl h2 s
  refine Evk.get (f := fun k => selvedgelaw14_OrderMarks.f k l o s) ?_
  refine Evk.bind shown_ev ?_
  refine Evk.bind hfew ?_
  refine Evk.of_eq (g := fun k => selvedgelaw14_OrderMarks.j0 k l o s true (!(fewOut (okI s) l))) ?_ (fun k => if_pos rfl)
  cases hv : fewOut (okI s) l with
  | false => exact Evk.step (Evk.ret true) (fun k => by rw [selvedgelaw14_OrderMarks.j0]; rfl)
  | true =>
    obtain ⟨hs, hb⟩ := (fewOut_true l (okI s)).1 hv
    have hss : small s := (okI_iff s).1 hs
    have hbs : ∀ m ∈ l, small m.f1 ∧ ∀ v ∈ m.f2, small v := fun m hm => ⟨(okI_iff _).1 (hb m hm).1, fun v hv => (okI_iff _).1 ((hb m hm).2 v hv)⟩
    have hal := above_le l h2 o
    have hnote : order_Note.f l o s = some (mkTo (Si.noteS (mkOf l) o s)) := by
      unfold order_Note.f
      rw [if_pos ⟨by omega, by omega⟩]
    have hnl : (mkTo (Si.noteS (mkOf l) o s)).length ≤ 4611686018427387900 ∧ ∀ m ∈ mkTo (Si.noteS (mkOf l) o s), m.f2.length ≤ 4611686018427387900 := by
      have hM : (Si.noteM (mkOf l) o s).2.2.length ≤ 1048577 := by
        have h1 := lowP_len (Si.insAt (fun x => decide (x > s)) s (Si.ofS (mkOf l) o).1.2.2) (Si.ofS (mkOf l) o).1.2.1
        rw [insAt_len] at h1
        show (Si.lowP (Si.ofS (mkOf l) o).1.2.1 (Si.insAt (fun x => decide (x > s)) s (Si.ofS (mkOf l) o).1.2.2)).2.length ≤ 1048577
        omega
      have hO : ∀ m ∈ mkOf l, m.2.2.length ≤ 1048577 := fun m hm => by
        obtain ⟨x, hx, e⟩ := List.mem_map.1 hm
        rw [← e]; have := h2 x hx; show x.f2.length ≤ _; omega
      have hmem : ∀ m ∈ Si.noteS (mkOf l) o s, m.2.2.length ≤ 1048577 := by
        intro m hm
        unfold Si.noteS at hm
        split at hm
        · split at hm
          · rcases List.mem_or_eq_of_mem_set hm with h | h
            · exact hO m h
            · rw [h]; exact hM
          · rcases (Si.mem_insAt _ _ _ _).1 hm with h | h
            · rw [h]; exact hM
            · exact hO m h
        · exact hO m hm
      have hlen : (Si.noteS (mkOf l) o s).length ≤ 1048577 := by
        have e1 := mkOf_length l
        unfold Si.noteS
        split
        · split
          · rw [List.length_set]; omega
          · rw [insAt_len]; omega
        · omega
      refine ⟨?_, fun m hm => ?_⟩
      · unfold mkTo; rw [List.length_map]; omega
      · obtain ⟨x, hx, e⟩ := List.mem_map.1 hm
        rw [← e]; have := hmem x hx; show x.2.2.length ≤ _; omega
    have hor := oR_l l hl h2 hbs l.length 0 (by omega)
    have hrr := rR_l l hl h2 hbs l.length 0 (by omega)
    refine evk_succ ?_
    simp only [selvedgelaw14_OrderMarks.j0, Bool.not_true, Bool.false_eq_true, if_false, hnote, Option.bind_some]
    refine Evk.bind (rnote_ev l hl h2 hbs o s hss) ?_
    refine Evk.bind (same_ev _ hnl.1 hnl.2) ?_
    refine Evk.of_eq ?_ (fun k => if_pos rfl)
    refine Evk.bind (f := fun _ => order_Fresh.f l o s) (v := Si.freshS (mkOf l) o s) (Evk.ret _) ?_
    refine Evk.bind (rfresh_ev l hl h2 o s) ?_
    refine Evk.of_eq ?_ (fun k => if_pos (by simp))
    refine Evk.bind (Evk.of_eq hor (fun k => rfl) : Evk (fun k => order_Right.f k l) _) ?_
    refine Evk.bind (Evk.of_eq hrr (fun k => rfl) : Evk (fun k => selvedgeref14_Right.f k l) _) ?_
    exact Evk.of_eq (Evk.ret true) (fun k => by simp)
end Go.Proofs.Ytcbfnmabckjijaa.Pure
