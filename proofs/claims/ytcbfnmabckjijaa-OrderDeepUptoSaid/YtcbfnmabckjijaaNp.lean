import Derived.Test.YtcbfnmabckjijaaNv
/-
  The plain law of marks: what a noted number does. By an AI agent.
-/
namespace Go.Proofs.Ytcbfnmabckjijaa.Si
open Go.RowKit
set_option linter.unusedVariables false
set_option linter.unusedSimpArgs false
theorem ixL_succ {α : Type} (p : α → Bool) : ∀ (l : List α) (i : Nat), ixL p l (i + 1) = if 0 ≤ ixL p l i then ixL p l i + 1 else ixL p l i
  | [], i => by simp [ixL]
  | x :: r, i => by
    rw [ixL, ixL]
    by_cases h : p x = true
    · rw [if_pos h, if_pos h, if_pos (by omega)]; omega
    · rw [if_neg h, if_neg h, ixL_succ p r (i + 1)]
theorem place_cons {α : Type} (p : α → Bool) (a : α) (l : List α) : place p (a :: l) = if p a = true then 0 else place p l + 1 := by
  unfold place
  rw [ixL]
  by_cases h : p a = true
  · rw [if_pos h, if_pos h, if_pos (by omega)]; rfl
  · rw [if_neg h, if_neg h, ixL_succ]
    by_cases h0 : 0 ≤ ixL p l 0
    · rw [if_pos h0, if_pos h0, if_pos (by omega)]; omega
    · rw [if_neg h0, if_neg h0, if_neg h0, List.length_cons]
theorem insAt_cons {α : Type} (p : α → Bool) (x a : α) (l : List α) : insAt p x (a :: l) = if p a = true then x :: a :: l else a :: insAt p x l := by
  unfold insAt
  rw [place_cons]
  split <;> rfl
theorem mem_insAt {α : Type} (p : α → Bool) (x y : α) : ∀ l : List α, y ∈ insAt p x l ↔ y = x ∨ y ∈ l
  | [] => by simp [insAt, place, ixL]
  | a :: l => by
    rw [insAt_cons]
    split
    · simp
    · simp only [List.mem_cons, mem_insAt p x y l]
      constructor
      · rintro (h | h | h)
        · exact .inr (.inl h)
        · exact .inl h
        · exact .inr (.inr h)
      · rintro (h | h | h)
        · exact .inr (.inl h)
        · exact .inl h
        · exact .inr (.inr h)
theorem asc_insAt {α : Type} (f : α → Int) (x : α) : ∀ l : List α, l.Pairwise (fun a b => f a < f b) → (∀ a ∈ l, f a ≠ f x) → (insAt (fun a => decide (f a > f x)) x l).Pairwise (fun a b => f a < f b)
  | [], _, _ => by simp [insAt, place, ixL]
  | a :: l, h, hne => by
    rw [insAt_cons]
    have h1 := List.pairwise_cons.1 h
    have hax := hne a (by simp)
    by_cases hp : f a > f x
    · rw [if_pos (decide_eq_true hp)]
      refine List.pairwise_cons.2 ⟨fun b hb => ?_, h⟩
      rcases List.mem_cons.1 hb with rfl | hb
      · exact hp
      · have := h1.1 b hb; omega
    · rw [if_neg (by simpa using hp)]
      refine List.pairwise_cons.2 ⟨fun b hb => ?_, asc_insAt f x l h1.2 (fun b hb => hne b (by simp [hb]))⟩
      rcases (mem_insAt _ x b l).1 hb with rfl | hb
      · omega
      · exact h1.1 b hb
/-- what is left behind the lowest one -/
theorem lowP_spec : ∀ (l : List Int) (lo : Int), -1099511627776 ≤ lo → lo ≤ 1099511627776 → (∀ a ∈ l, lo < a ∧ a ≤ 1099511627776) → l.Pairwise (fun a b => a < b) →
    lo ≤ (lowP lo l).1 ∧ (lowP lo l).1 ≤ 1099511627776 ∧ (∀ a ∈ (lowP lo l).2, a ∈ l ∧ 2 ≤ a - (lowP lo l).1) ∧ (lowP lo l).2.Pairwise (fun a b => a < b) ∧ ∀ x, (x ≤ lo ∨ x ∈ l) → (x ≤ (lowP lo l).1 ∨ x ∈ (lowP lo l).2)
  | [], lo, h0, h1, _, _ => ⟨Int.le_refl _, h1, fun a ha => by simp [lowP] at ha, List.Pairwise.nil, fun x hx => hx⟩
  | a :: r, lo, h0, h1, hb, hp => by
    obtain ⟨ha, ha'⟩ := hb a (by simp)
    have hp1 := List.pairwise_cons.1 hp
    rw [lowP, Go.IntWalk.wrap64_in (a - 1) (by omega)]
    by_cases h : a - 1 = lo
    · rw [if_pos h, Go.IntWalk.wrap64_in (lo + 1) (by omega)]
      obtain ⟨q1, q2, q3, q4, q5⟩ := lowP_spec r (lo + 1) (by omega) (by omega) (fun b hb' => ⟨by have := hp1.1 b hb'; omega, (hb b (by simp [hb'])).2⟩) hp1.2
      refine ⟨by omega, q2, fun b hb' => ⟨by simp [(q3 b hb').1], (q3 b hb').2⟩, q4, fun x hx => q5 x ?_⟩
      rcases hx with hx | hx
      · exact .inl (by omega)
      · rcases List.mem_cons.1 hx with rfl | hx
        · exact .inl (by omega)
        · exact .inr hx
    · rw [if_neg h]
      refine ⟨Int.le_refl _, h1, fun b hb' => ⟨hb', ?_⟩, hp, fun x hx => hx⟩
      rcases List.mem_cons.1 hb' with rfl | hb'
      · omega
      · have := hp1.1 b hb'; omega
theorem ofS_nil (o : Int) : ofS [] o = ((o, 0, []), -1) := rfl
theorem ofS_cons (m : MS) (ms : List MS) (o : Int) : ofS (m :: ms) o = if m.1 = o then (m, 0) else ((ofS ms o).1, if 0 ≤ (ofS ms o).2 then (ofS ms o).2 + 1 else -1) := by
  unfold ofS
  rw [ixL]
  by_cases h : m.1 = o
  · have hb : (m.1 == o) = true := by simpa using h
    rw [if_pos h, if_pos hb, if_pos (by omega)]
    rfl
  · have hb : ¬ (m.1 == o) = true := by simpa using h
    rw [if_neg h, if_neg hb, ixL_succ]
    by_cases h0 : 0 ≤ ixL (fun x : MS => x.1 == o) ms 0
    · rw [if_pos h0, if_pos (by omega), if_pos h0]
      simp only [h0, if_true]
      rw [show (ixL (fun x : MS => x.1 == o) ms 0 + 1).toNat = (ixL (fun x : MS => x.1 == o) ms 0).toNat + 1 by omega]
      rfl
    · rw [if_neg h0, if_neg h0, if_neg h0]
      rfl
theorem ofS_org (o : Int) : ∀ ms : List MS, (ofS ms o).1.1 = o
  | [] => rfl
  | m :: ms => by
    rw [ofS_cons]
    split
    · assumption
    · exact ofS_org o ms
theorem ofS_set (o o' : Int) (m' : MS) (hm : m'.1 = o) : ∀ ms : List MS, 0 ≤ (ofS ms o).2 → (ofS (ms.set (ofS ms o).2.toNat m') o').1 = if o' = o then m' else (ofS ms o').1
  | [], h => by rw [ofS_nil] at h; exact absurd (show (0 : Int) ≤ -1 from h) (by decide)
  | m :: ms, h => by
    rw [ofS_cons] at h ⊢
    by_cases he : m.1 = o
    · rw [if_pos he]
      show (ofS (m' :: ms) o').1 = _
      rw [ofS_cons, ofS_cons, hm, he]
      by_cases ho : o = o'
      · subst ho; rw [if_pos rfl, if_pos rfl]
      · rw [if_neg ho, if_neg ho, if_neg (fun h9 => ho (Eq.symm h9))]
    · rw [if_neg he] at h ⊢
      simp only at h ⊢
      by_cases h0 : 0 ≤ (ofS ms o).2
      · rw [if_pos h0]
        rw [show ((ofS ms o).2 + 1).toNat = (ofS ms o).2.toNat + 1 by omega, List.set_cons_succ, ofS_cons, ofS_cons]
        have ih := ofS_set o o' m' hm ms h0
        by_cases ho : m.1 = o'
        · rw [if_pos ho, if_pos ho, if_neg (fun h => he (ho.trans h))]
        · rw [if_neg ho, if_neg ho]; exact ih
      · rw [if_neg h0] at h; omega
theorem ofS_ins (p : MS → Bool) (o o' : Int) (m' : MS) (hm : m'.1 = o) : ∀ ms : List MS, ¬ 0 ≤ (ofS ms o).2 → (ofS (insAt p m' ms) o').1 = if o' = o then m' else (ofS ms o').1
  | [], h => by
    show (ofS [m'] o').1 = _
    rw [ofS_cons, hm]
    by_cases ho : o = o'
    · subst ho; rw [if_pos rfl, if_pos rfl]
    · rw [if_neg ho, if_neg (fun h9 => ho (Eq.symm h9))]
  | m :: ms, h => by
    rw [ofS_cons] at h
    by_cases he : m.1 = o
    · rw [if_pos he] at h; exact absurd (Int.le_refl 0) h
    · rw [if_neg he] at h
      simp only at h
      have h0 : ¬ 0 ≤ (ofS ms o).2 := fun h0 => h (by rw [if_pos h0]; omega)
      rw [insAt_cons]
      split
      · rw [ofS_cons, hm]
        by_cases ho : o = o'
        · subst ho; rw [if_pos rfl, if_pos rfl]
        · rw [if_neg ho, if_neg (fun h9 => ho (Eq.symm h9))]
      · rw [ofS_cons, ofS_cons]
        by_cases ho : m.1 = o'
        · rw [if_pos ho, if_pos ho, if_neg (fun h => he (ho.trans h))]
        · rw [if_neg ho, if_neg ho]; exact ofS_ins p o o' m' hm ms h0
theorem ofS_mem (o : Int) : ∀ ms : List MS, 0 ≤ (ofS ms o).2 → (ofS ms o).1 ∈ ms
  | [], h => by rw [ofS_nil] at h; exact absurd (show (0 : Int) ≤ -1 from h) (by decide)
  | m :: ms, h => by
    rw [ofS_cons] at h ⊢
    by_cases he : m.1 = o
    · rw [if_pos he]; simp
    · rw [if_neg he] at h ⊢
      simp only at h ⊢
      by_cases h0 : 0 ≤ (ofS ms o).2
      · exact List.mem_cons_of_mem _ (ofS_mem o ms h0)
      · rw [if_neg h0] at h; omega
theorem ofS_none (o : Int) : ∀ ms : List MS, ¬ 0 ≤ (ofS ms o).2 → (ofS ms o).1 = (o, 0, []) ∧ ∀ m ∈ ms, m.1 ≠ o
  | [], h => ⟨rfl, fun m hm => by simp at hm⟩
  | m :: ms, h => by
    rw [ofS_cons] at h ⊢
    by_cases he : m.1 = o
    · rw [if_pos he] at h; exact absurd (Int.le_refl 0) h
    · rw [if_neg he] at h ⊢
      simp only at h ⊢
      have h0 : ¬ 0 ≤ (ofS ms o).2 := fun h0 => h (by rw [if_pos h0]; omega)
      obtain ⟨q1, q2⟩ := ofS_none o ms h0
      exact ⟨q1, fun x hx => by rcases List.mem_cons.1 hx with rfl | hx; exact he; exact q2 x hx⟩
/-- a mark that is right, its numbers small -/
def RightM (m : MS) : Prop := 1 ≤ m.1 ∧ m.1 ≤ 64 ∧ 0 ≤ m.2.1 ∧ m.2.1 ≤ 1099511627776 ∧ (∀ a ∈ m.2.2, 2 ≤ a - m.2.1 ∧ a - m.2.1 ≤ 8 ∧ a ≤ 1099511627776) ∧ m.2.2.Pairwise (fun a b => a < b)
def RightS (ms : List MS) : Prop := (∀ m ∈ ms, RightM m) ∧ ms.Pairwise (fun a b => a.1 < b.1)
theorem of_right {ms : List MS} (h : RightS ms) (o : Int) (h1 : 1 ≤ o) (h2 : o ≤ 64) : RightM (ofS ms o).1 := by
  by_cases h0 : 0 ≤ (ofS ms o).2
  · exact h.1 _ (ofS_mem o ms h0)
  · rw [(ofS_none o ms h0).1]
    exact ⟨h1, h2, Int.le_refl _, (by decide : (0 : Int) ≤ 1099511627776), fun a ha => by simp at ha, List.Pairwise.nil⟩
theorem freshR_iff (o s lo : Int) (l : List Int) : freshR o s lo l = true ↔ (1 ≤ o ∧ o ≤ 64 ∧ lo < s ∧ wrap64 (s - 8) ≤ lo ∧ s ∉ l) := by
  unfold freshR
  simp [and_assoc]
/-- what a fresh number makes of its mark -/
theorem noteM_spec {ms : List MS} (h : RightS ms) (o s : Int) (hs : s ≤ 1099511627776) (hs' : -1099511627776 ≤ s) (hf : freshS ms o s = true) :
    RightM (noteM ms o s) ∧ (noteM ms o s).1 = o ∧ ∀ x, (x = s ∨ x ≤ (ofS ms o).1.2.1 ∨ x ∈ (ofS ms o).1.2.2) → (x ≤ (noteM ms o s).2.1 ∨ x ∈ (noteM ms o s).2.2) := by
  obtain ⟨f1, f2, f3, f4, f5⟩ := (freshR_iff _ _ _ _).1 hf
  obtain ⟨r1, r2, r3, r4, r5, r6⟩ := of_right h o f1 f2
  rw [Go.IntWalk.wrap64_in _ (by omega)] at f4
  have hasc := asc_insAt (fun a : Int => a) s (ofS ms o).1.2.2 r6 (fun a ha e => f5 (by rw [← e]; exact ha))
  obtain ⟨q1, q2, q3, q4, q5⟩ := lowP_spec (insAt (fun x => decide (x > s)) s (ofS ms o).1.2.2) (ofS ms o).1.2.1 (by omega) r4 (fun a ha => by
    rcases (mem_insAt _ s a _).1 ha with rfl | ha
    · exact ⟨f3, hs⟩
    · have := r5 a ha; omega) hasc
  refine ⟨⟨r1, r2, by show 0 ≤ (lowP _ _).1; omega, q2, fun a ha => ?_, q4⟩, ofS_org o ms, fun x hx => q5 x ?_⟩
  · obtain ⟨h3, h4⟩ := q3 a ha
    show 2 ≤ a - (lowP _ _).1 ∧ a - (lowP _ _).1 ≤ 8 ∧ _
    refine ⟨h4, ?_, ?_⟩
    · rcases (mem_insAt _ s a _).1 h3 with rfl | h3
      · omega
      · have := r5 a h3; omega
    · rcases (mem_insAt _ s a _).1 h3 with rfl | h3
      · exact hs
      · exact (r5 a h3).2.2
  · rcases hx with rfl | hx | hx
    · exact .inr ((mem_insAt _ _ _ _).2 (.inl rfl))
    · exact .inl hx
    · exact .inr ((mem_insAt _ _ _ _).2 (.inr hx))
theorem pairwise_set {ms : List MS} (m' : MS) : ∀ (i : Nat), (∀ m, ms[i]? = some m → m.1 = m'.1) → ms.Pairwise (fun a b => a.1 < b.1) → (ms.set i m').Pairwise (fun a b => a.1 < b.1) := by
  induction ms with
  | nil => intro i _ h; simp
  | cons a r ih =>
    intro i hi h
    have h1 := List.pairwise_cons.1 h
    cases i with
    | zero =>
      have e := hi a rfl
      rw [List.set_cons_zero]
      exact List.pairwise_cons.2 ⟨fun b hb => by rw [← e]; exact h1.1 b hb, h1.2⟩
    | succ i =>
      rw [List.set_cons_succ]
      refine List.pairwise_cons.2 ⟨fun b hb => ?_, ih i (fun m hm => hi m (by simpa using hm)) h1.2⟩
      rcases List.mem_or_eq_of_mem_set hb with hb | rfl
      · exact h1.1 b hb
      · by_cases hl : i < r.length
        · rw [← hi r[i] (by simp [hl])]
          exact h1.1 _ (List.getElem_mem hl)
        · rw [List.set_eq_of_length_le (by omega)] at hb
          exact h1.1 _ hb
theorem ofS_at (o : Int) : ∀ ms : List MS, 0 ≤ (ofS ms o).2 → ms[(ofS ms o).2.toNat]? = some (ofS ms o).1
  | [], h => by rw [ofS_nil] at h; exact absurd (show (0 : Int) ≤ -1 from h) (by decide)
  | m :: ms, h => by
    rw [ofS_cons] at h ⊢
    by_cases he : m.1 = o
    · rw [if_pos he]; rfl
    · rw [if_neg he] at h ⊢
      simp only at h ⊢
      by_cases h0 : 0 ≤ (ofS ms o).2
      · rw [if_pos h0, show ((ofS ms o).2 + 1).toNat = (ofS ms o).2.toNat + 1 by omega, List.getElem?_cons_succ]
        exact ofS_at o ms h0
      · rw [if_neg h0] at h; omega
theorem noteS_spec {ms : List MS} (h : RightS ms) (o s : Int) (hs : s ≤ 1099511627776) (hs' : -1099511627776 ≤ s) :
    RightS (noteS ms o s) ∧ ∀ o', (ofS (noteS ms o s) o').1 = if freshS ms o s = true ∧ o' = o then noteM ms o s else (ofS ms o').1 := by
  unfold noteS
  cases hf : freshS ms o s with
  | false =>
    rw [if_neg (by decide)]
    exact ⟨h, fun o' => by rw [if_neg (fun h => Bool.noConfusion h.1)]⟩
  | true =>
    rw [if_pos rfl]
    obtain ⟨n1, n2, n3⟩ := noteM_spec h o s hs hs' hf
    by_cases h0 : 0 ≤ (ofS ms o).2
    · rw [if_pos h0]
      refine ⟨⟨fun m hm => ?_, pairwise_set _ _ (fun m hm => ?_) h.2⟩, fun o' => ?_⟩
      · rcases List.mem_or_eq_of_mem_set hm with hm | rfl
        · exact h.1 m hm
        · exact n1
      · rw [ofS_at o ms h0] at hm
        have e := Option.some.inj hm
        rw [← e, n2]; exact ofS_org o ms
      · rw [ofS_set o o' _ n2 ms h0]
        by_cases ho : o' = o
        · rw [if_pos ho, if_pos ⟨rfl, ho⟩]
        · rw [if_neg ho, if_neg (fun h => ho h.2)]
    · rw [if_neg h0]
      obtain ⟨k1, k2⟩ := ofS_none o ms h0
      refine ⟨⟨fun m hm => ?_, ?_⟩, fun o' => ?_⟩
      · rcases (mem_insAt _ _ _ _).1 hm with rfl | hm
        · exact n1
        · exact h.1 m hm
      · have := asc_insAt (fun m : MS => m.1) (noteM ms o s) ms h.2 (fun a ha e => k2 a ha (by rw [e, n2]))
        rw [n2] at this
        exact this
      · rw [ofS_ins _ o o' _ n2 ms h0]
        by_cases ho : o' = o
        · rw [if_pos ho, if_pos ⟨rfl, ho⟩]
        · rw [if_neg ho, if_neg (fun h => ho h.2)]
/-- a number is done: it will never be fresh -/
def Done (ms : List MS) (o s : Int) : Prop := s ≤ (ofS ms o).1.2.1 ∨ s ∈ (ofS ms o).1.2.2
theorem done_note {ms : List MS} (h : RightS ms) (o s o' x : Int) (hs : s ≤ 1099511627776) (hs' : -1099511627776 ≤ s) (hd : Done ms o' x) : Done (noteS ms o s) o' x := by
  unfold Done
  rw [(noteS_spec h o s hs hs').2 o']
  by_cases hc : freshS ms o s = true ∧ o' = o
  · rw [if_pos hc]
    obtain ⟨hf, rfl⟩ := hc
    exact (noteM_spec h o' s hs hs' hf).2.2 x (.inr hd)
  · rw [if_neg hc]; exact hd
theorem done_self {ms : List MS} (h : RightS ms) (o s : Int) (hs : s ≤ 1099511627776) (hs' : -1099511627776 ≤ s) (hf : freshS ms o s = true) : Done (noteS ms o s) o s := by
  unfold Done
  rw [(noteS_spec h o s hs hs').2 o, if_pos ⟨hf, rfl⟩]
  exact (noteM_spec h o s hs hs' hf).2.2 s (.inl rfl)
theorem done_stale {ms : List MS} {o s : Int} (hd : Done ms o s) : freshS ms o s = false := by
  cases hf : freshS ms o s with
  | false => rfl
  | true =>
    obtain ⟨f1, f2, f3, f4, f5⟩ := (freshR_iff _ _ _ _).1 hf
    rcases hd with h | h
    · omega
    · exact absurd h f5
/-- a number up to 8 that isn't fresh is done, where its origin may be -/
theorem done_small {ms : List MS} (h : RightS ms) (o s : Int) (h1 : 1 ≤ o) (h2 : o ≤ 64) (hs : s ≤ 8) (hs' : -1099511627776 ≤ s) (hf : freshS ms o s = false) : Done ms o s := by
  unfold Done
  obtain ⟨r1, r2, r3, r4, r5, r6⟩ := of_right h o h1 h2
  by_cases ha : s ≤ (ofS ms o).1.2.1
  · exact .inl ha
  · refine .inr (Classical.byContradiction fun hn => ?_)
    have : freshS ms o s = true := (freshR_iff _ _ _ _).2 ⟨h1, h2, by omega, by rw [Go.IntWalk.wrap64_in _ (by omega)]; omega, hn⟩
    rw [this] at hf; cases hf
theorem asc_len : ∀ (l : List Int) (a b : Int), a ≤ b → (∀ x ∈ l, a ≤ x ∧ x < b) → l.Pairwise (fun x y => x < y) → (l.length : Int) ≤ b - a
  | [], a, b, hab, _, _ => by simp; omega
  | x :: l, a, b, hab, h, hp => by
    have h1 := List.pairwise_cons.1 hp
    have hx := h x (by simp)
    have := asc_len l (x + 1) b (by omega) (fun y hy => ⟨by have := h1.1 y hy; omega, (h y (by simp [hy])).2⟩) h1.2
    simp only [List.length_cons]
    omega
theorem right_len {ms : List MS} (h : RightS ms) : ms.length ≤ 64 := by
  have := asc_len (ms.map (fun m => m.1)) 1 65 (by decide) (fun x hx => by
    obtain ⟨m, hm, rfl⟩ := List.mem_map.1 hx
    have := h.1 m hm
    exact ⟨this.1, by have := this.2.1; omega⟩) (List.pairwise_map.2 h.2)
  rw [List.length_map] at this
  omega
theorem above_len {m : MS} (h : RightM m) : m.2.2.length ≤ 7 := by
  obtain ⟨r1, r2, r3, r4, r5, r6⟩ := h
  have := asc_len m.2.2 (m.2.1 + 2) (m.2.1 + 9) (by omega) (fun x hx => by have := r5 x hx; omega) r6
  omega
theorem above_new {ms : List MS} (h : RightS ms) (o : Int) : (ofS ms o).1.2.2.length ≤ 7 := by
  by_cases h0 : 0 ≤ (ofS ms o).2
  · exact above_len (h.1 _ (ofS_mem o ms h0))
  · rw [(ofS_none o ms h0).1]; simp
theorem right_nil : RightS [] := ⟨fun m hm => by simp at hm, List.Pairwise.nil⟩
end Go.Proofs.Ytcbfnmabckjijaa.Si
