/- Proved: the pure half of the law ShareAdds of chapter 4 (what the walked program computes is 'true'). Conditions: those of its row, no other. -/
import Derived.Test.YtokkkeepifpbpaaArgShareAdds
import Derived.Test.YtokkkeepifpbpaaSh
import Derived.IntWalk
namespace Go.Proofs.Ytokkkeepifpbpaa.Pure
open Go.IntWalk Go.RowKit Go.Proofs.Ytokkkeepifpbpaa.PShareAdds Go.Proofs.YtokkkeepifpbpaaW.PrintWords Go.Proofs.YtokkkeepifpbpaaW.PrintLast
set_option linter.unusedSimpArgs false

theorem shown : selvedgelaw04_shown.f = some true := by
  have e1 : eE [(⟨5, 0⟩ : S23), ⟨3, 0⟩] = [(5, 0), (3, 0)] := rfl
  have e2 : eS [(⟨1, ⟨8, 0⟩⟩ : S43), ⟨2, ⟨11, 0⟩⟩] = Fl.shownL := rfl
  unfold selvedgelaw04_shown.f share_Of.f share_Open.f
  simp only [Option.bind_some, e1, Fl.shown_of1, Fl.shown_of2, e2, Fl.shown_open]
  rfl
theorem rmay (a b : Int) : selvedgeref03_May.f a b = some (decide (Gm.Ok (a, b))) := by
  have e : Gm.Ok (a, b) ↔ 0 ≤ a ∧ a < 10007 ∧ 0 ≤ b ∧ b < 10007 := Iff.rfl
  unfold selvedgeref03_May.f
  by_cases h1 : a ≥ 0
  · by_cases h2 : a < 10007
    · by_cases h3 : b ≥ 0
      · rw [if_pos h1, if_pos h2, if_pos h3, Option.some.injEq, decide_eq_decide, e]
        omega
      · rw [if_pos h1, if_pos h2, if_neg h3, decide_eq_false (fun h => by rw [e] at h; omega)]
    · rw [if_pos h1, if_neg h2, decide_eq_false (fun h => by rw [e] at h; omega)]
  · rw [if_neg h1, decide_eq_false (fun h => by rw [e] at h; omega)]
theorem bp (a c : Int) (h0 : 0 ≤ a) (h1 : a < 10007) (h2 : 0 ≤ c) (h3 : c < 10007) : 0 ≤ a * c ∧ a * c ≤ 100120036 :=
  ⟨Int.mul_nonneg h0 h2, Int.le_trans (Int.mul_le_mul (show a ≤ 10006 by omega) (show c ≤ 10006 by omega) h2 (by omega)) (by decide)⟩
theorem raddF (a b c d : Int) (h : Gm.Ok (a, b)) (h2 : Gm.Ok (c, d)) : selvedgeref03_Add.f a b c d = some (Gm.add (a, b) (c, d)) := by
  have h1' := h
  have h2' := h2
  unfold Gm.Ok at h1' h2'
  simp only at h1' h2'
  unfold selvedgeref03_Add.f Gm.add Gm.gadd Gm.red
  rw [rmay, rmay]
  simp only [Option.bind_some, h, h2, decide_true, if_true]
  rw [wrap64_in _ (by omega), wrap64_in _ (by omega), Int.tmod_eq_emod_of_nonneg (by omega), Int.tmod_eq_emod_of_nonneg (by omega)]
theorem raddN (a b c d : Int) (h : ¬ (Gm.Ok (a, b) ∧ Gm.Ok (c, d))) : selvedgeref03_Add.f a b c d = some (0, 0) := by
  unfold selvedgeref03_Add.f
  rw [rmay, rmay]
  simp only [Option.bind_some, decide_eq_true_eq]
  by_cases h1 : Gm.Ok (a, b)
  · rw [if_pos h1, if_neg (fun h2 => h ⟨h1, h2⟩)]
  · rw [if_neg h1]
theorem qadd (x y : Gm.E) : selvedgeref03_Add.f x.1 x.2 y.1 y.2 = some (Fl.opE Gm.add x y) := by
  unfold Fl.opE
  by_cases h : Gm.Ok x ∧ Gm.Ok y
  · rw [if_pos h]; exact raddF _ _ _ _ h.1 h.2
  · rw [if_neg h]; exact raddN _ _ _ _ h
theorem rd_is (l : List S23) {i : Nat} (hi : i < l.length) : ((rd_T23 l (i : Int)).f0, (rd_T23 l (i : Int)).f1) = (eE l).getD i (0, 0) := by
  unfold eE rd_T23
  simp [List.getElem?_eq_getElem hi]
theorem len_ok {l : List S23} (h : l.length * 16 ≤ 140737488351232) : l.length ≤ 9223372036854775000 := by omega
theorem succ_ok {i n : Nat} (h : i < n) (hn : n ≤ 9223372036854775000) : wrap64 ((i : Int) + 1) = ((i + 1 : Nat) : Int) := by rw [wrap64_in _ (by omega)]; omega
theorem right_l (l : List S23) (hl : l.length ≤ 9223372036854775000) (r : Nat) : ∀ (m i : Nat), i + m = l.length → ∃ b, selvedgelaw04_right.l0 (r + m + 1) l i = some b ∧ (b = true ↔ ∀ j, i ≤ j → j < l.length → Gm.Ok ((eE l).getD j (0, 0)))
  | 0, i, hi => by
    rw [selvedgelaw04_right.l0, if_neg (by omega)]
    exact ⟨true, rfl, fun _ j h1 h2 => by omega, fun _ => rfl⟩
  | m + 1, i, hi => by
    rw [show r + (m + 1) + 1 = (r + m + 1) + 1 by omega, selvedgelaw04_right.l0, if_pos (by omega), if_pos (by omega), rmay, Option.bind_some, rd_is l (by omega), succ_ok (show i < l.length by omega) hl]
    by_cases ok : Gm.Ok ((eE l).getD i (0, 0))
    · rw [if_pos (by simpa using ok)]
      obtain ⟨b, hb, hx⟩ := right_l l hl r m (i + 1) (by omega)
      refine ⟨b, hb, hx.trans ⟨fun h j h1 h2 => ?_, fun h j h1 h2 => h j (by omega) h2⟩⟩
      by_cases e : j = i
      · rw [e]; exact ok
      · exact h j (by omega) h2
    · rw [if_neg (by simpa using ok)]
      exact ⟨false, rfl, fun h => (by cases h), fun h => absurd (h i (Nat.le_refl _) (by omega)) ok⟩
theorem right_is (l : List S23) (hl : l.length ≤ 9223372036854775000) (r : Nat) : ∃ b, selvedgelaw04_right.f (r + l.length + 1) l = some b ∧ (b = true → ∀ c ∈ eE l, Gm.Ok c) := by
  obtain ⟨b, h1, h2⟩ := right_l l hl r l.length 0 (by omega)
  refine ⟨b, h1, fun h c hc => ?_⟩
  obtain ⟨j, hj, rfl⟩ := List.getElem_of_mem hc
  have := h2.1 h j (Nat.zero_le _) (by rw [← eE_length]; exact hj)
  rw [List.getD_eq_getElem?_getD, List.getElem?_eq_getElem hj] at this
  exact this
theorem eE_snoc (l : List S23) (a b : Int) : eE (l ++ [⟨a, b⟩]) = eE l ++ [(a, b)] := by simp [eE]
theorem fin (p q s : List S23) (id : Int) (hp : ∀ c ∈ eE p, Gm.Ok c) (hq : ∀ c ∈ eE q, Gm.Ok c) (hn : p.length = q.length) (hs : eE s = List.zipWith Gm.add (eE p) (eE q)) :
    ((Fl.ofE (eE p) id).2 = (Fl.ofE (eE q) id).2 ∧ (Fl.ofE (eE q) id).2 = (Fl.ofE (eE s) id).2) ∧ (Fl.ofE (eE s) id).1.2 = Fl.opE Gm.add (Fl.ofE (eE p) id).1.2 (Fl.ofE (eE q) id).1.2 := by
  by_cases h1 : id < 1
  · have e : ∀ l, Fl.ofE l id = ((0, (0, 0)), 1) := fun l => by unfold Fl.ofE; rw [if_pos h1]
    rw [e, e, e]
    exact ⟨⟨rfl, rfl⟩, by decide⟩
  · by_cases h2 : id > 64
    · have e : ∀ l, Fl.ofE l id = ((0, (0, 0)), 1) := fun l => by unfold Fl.ofE; rw [if_neg h1, if_pos h2]
      rw [e, e, e]
      exact ⟨⟨rfl, rfl⟩, by decide⟩
    · have os : ∀ c ∈ eE s, Gm.Ok c := by
        rw [hs]
        intro c hc
        rw [List.mem_iff_getElem] at hc
        obtain ⟨i, hi, rfl⟩ := hc
        rw [List.getElem_zipWith]
        exact Gm.add_ok _ _
      rw [Fl.ofE_ok (by omega) (by omega) hp, Fl.ofE_ok (by omega) (by omega) hq, Fl.ofE_ok (by omega) (by omega) os]
      refine ⟨⟨rfl, rfl⟩, ?_⟩
      show Gm.ev (eE s) (id, 0) = Fl.opE Gm.add (Gm.ev (eE p) (id, 0)) (Gm.ev (eE q) (id, 0))
      rw [hs, Fl.opE_of (Gm.ev_ok _ _) (Gm.ev_ok _ _), Gm.ev_add _ _ (by rw [eE_length, eE_length]; exact hn)]
theorem loop (p q : List S23) (id : Int) (hl : p.length * 16 ≤ 140737488351232) (hn : p.length = q.length) (hp : ∀ c ∈ eE p, Gm.Ok c) (hq : ∀ c ∈ eE q, Gm.Ok c) (r : Nat) : ∀ (m i : Nat) (s : List S23), i + m = p.length → eE s = (List.zipWith Gm.add (eE p) (eE q)).take i →
    selvedgelaw04_ShareAdds.l0 (r + m + 1) p q id s i = some true
  | 0, i, s, hi, hs => by
    have hs' : eE s = List.zipWith Gm.add (eE p) (eE q) := by
      rw [hs, List.take_of_length_le]
      rw [List.length_zipWith, eE_length, eE_length]
      omega
    obtain ⟨⟨f1, f2⟩, f3⟩ := fin p q s id hp hq hn hs'
    rw [selvedgelaw04_ShareAdds.l0, if_neg (by omega)]
    unfold share_Of.f
    simp only [Option.bind_some]
    rw [if_pos f1, if_pos f2, qadd, Option.bind_some, ← f3]
    simp
  | m + 1, i, s, hi, hs => by
    have hsl : s.length = i := by
      have := congrArg List.length hs
      rw [eE_length, List.length_take, List.length_zipWith, eE_length, eE_length] at this
      omega
    have e2 := qadd ((rd_T23 p (i : Int)).f0, (rd_T23 p (i : Int)).f1) ((rd_T23 q (i : Int)).f0, (rd_T23 q (i : Int)).f1)
    simp only at e2
    rw [show r + (m + 1) + 1 = (r + m + 1) + 1 by omega, selvedgelaw04_ShareAdds.l0, if_pos (by omega), if_pos (by omega), if_pos (by omega), e2, Option.bind_some, if_pos (by omega), succ_ok (show i < p.length by omega) (len_ok hl), rd_is p (by omega), rd_is q (by omega)]
    refine loop p q id hl hn hp hq r m (i + 1) _ (by omega) ?_
    rw [eE_snoc, hs, Fl.opE_of (Fl.getD_ok hp i) (Fl.getD_ok hq i)]
    have hiz : i < (List.zipWith Gm.add (eE p) (eE q)).length := by
      rw [List.length_zipWith, eE_length, eE_length]
      omega
    rw [List.take_succ_eq_append_getElem hiz, List.getElem_zipWith]
    have g1 : (eE p).getD i (0, 0) = (eE p)[i]'(by rw [eE_length]; omega) := by
      rw [List.getD_eq_getElem?_getD, List.getElem?_eq_getElem (by rw [eE_length]; omega)]; rfl
    have g2 : (eE q).getD i (0, 0) = (eE q)[i]'(by rw [eE_length]; omega) := by
      rw [List.getD_eq_getElem?_getD, List.getElem?_eq_getElem (by rw [eE_length]; omega)]; rfl
    rw [g1, g2]
theorem j0 (p q : List S23) (id : Int) (z : Bool) (hl : p.length * 16 ≤ 140737488351232) (k : Nat) (hz : z = false → p.length = q.length ∧ (∀ c ∈ eE p, Gm.Ok c) ∧ (∀ c ∈ eE q, Gm.Ok c)) : selvedgelaw04_ShareAdds.j0 (k + p.length + 2) p q id true z = some true := by
  rw [show k + p.length + 2 = (k + p.length + 1) + 1 by omega, selvedgelaw04_ShareAdds.j0]
  cases z with
  | true => rw [if_pos rfl]
  | false =>
    obtain ⟨h1, h2, h3⟩ := hz rfl
    rw [if_neg (by decide)]
    exact loop p q id hl h1 h2 h3 k p.length 0 [] (by omega) rfl
theorem ShareAdds : selvedgelaw04_ShareAdds.Pure := by
  intro p q id hp hq _
  obtain ⟨b1, e1, o1⟩ := right_is p (len_ok hp.1) (q.length + 1)
  obtain ⟨b2, e2, o2⟩ := right_is q (len_ok hq.1) (p.length + 1)
  refine ⟨q.length + 1 + p.length + 1, ?_⟩
  unfold selvedgelaw04_ShareAdds.f
  rw [shown, Option.bind_some, e1, Option.bind_some, show q.length + 1 + p.length + 1 = p.length + 1 + q.length + 1 by omega, e2, Option.bind_some, if_pos rfl, show p.length + 1 + q.length + 1 = q.length + p.length + 2 by omega]
  cases b1 with
  | false => rw [if_neg (by decide)]; exact j0 p q id true hp.1 q.length (by simp)
  | true =>
    rw [if_pos rfl]
    cases b2 with
    | false => rw [if_neg (by decide)]; exact j0 p q id true hp.1 q.length (by simp)
    | true =>
      rw [if_pos rfl]
      exact j0 p q id _ hp.1 q.length (fun hz => ⟨by have : (p.length : Int) = q.length := by simpa using hz
                                                     omega, o1 rfl, o2 rfl⟩)

end Go.Proofs.Ytokkkeepifpbpaa.Pure
