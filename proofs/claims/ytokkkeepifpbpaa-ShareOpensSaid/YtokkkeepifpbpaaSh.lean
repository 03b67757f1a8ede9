import Derived.Test.YtokkkeepifpbpaaOn
import Derived.Test.YtokkkeepifpbpaaLg
/-
  What shares open, in plain terms: the sum of the values times Lagrange's factors. By an AI agent.
-/
namespace Go.Proofs.Ytokkkeepifpbpaa.Fl
open Gm
set_option linter.unusedVariables false

theorem opE_of {f : E → E → E} {x y : E} (hx : Ok x) (hy : Ok y) : opE f x y = f x y := if_pos ⟨hx, hy⟩
theorem opE_okE {f : E → E → E} (hf : ∀ x y, Ok (f x y)) (x y : E) : Ok (opE f x y) := by
  unfold opE
  by_cases h : Ok x ∧ Ok y
  · rw [if_pos h]; exact hf x y
  · rw [if_neg h]; exact zero_ok
/-! ### a polynomial's value -/
theorem getD_ok {l : List E} (h : ∀ c ∈ l, Ok c) (i : Nat) : Ok (l.getD i (0, 0)) := by
  by_cases hi : i < l.length
  · rw [List.getD_eq_getElem?_getD, List.getElem?_eq_getElem hi]
    exact h _ (List.getElem_mem hi)
  · rw [List.getD_eq_getElem?_getD, List.getElem?_eq_none (by omega)]
    exact zero_ok
theorem evFrom_ev {l : List E} {x : E} (h : ∀ c ∈ l, Ok c) (hx : Ok x) : ∀ i, i ≤ l.length → evFrom l x i (ev (l.drop i) x) = ev l x
  | 0, _ => by rw [evFrom, List.drop_zero]
  | i + 1, hi => by
    have e : l.drop i = l.getD i (0, 0) :: l.drop (i + 1) := by
      rw [List.getD_eq_getElem?_getD, List.getElem?_eq_getElem (by omega)]
      exact List.drop_eq_getElem_cons (by omega)
    rw [evFrom, opE_of (ev_ok _ _) hx, opE_of (mul_ok _ _) (getD_ok h i)]
    have := evFrom_ev h hx i (by omega)
    rw [e, ev] at this
    exact this
theorem evE_ev {l : List E} {x : E} (h : ∀ c ∈ l, Ok c) (hx : Ok x) : evE l x = ev l x := by
  have := evFrom_ev h hx l.length (Nat.le_refl _)
  rw [List.drop_length] at this
  exact this
theorem mayB_eq (x : E) : mayB x.1 x.2 = decide (Ok x) := rfl
theorem oddE_iff (l : List E) : oddE l = false ↔ ∀ c ∈ l, Ok c := by
  unfold oddE
  rw [decide_eq_false_iff_not, ix_nonneg]
  constructor
  · intro h c hc
    obtain ⟨i, hi, rfl⟩ := List.getElem_of_mem hc
    refine Classical.byContradiction fun hn => h ⟨i, hi, ?_⟩
    rw [List.getD_eq_getElem?_getD, List.getElem?_eq_getElem hi]
    simp only [Option.getD_some, mayB_eq, Bool.not_eq_true', decide_eq_false_iff_not]
    exact hn
  · rintro h ⟨i, hi, hb⟩
    rw [List.getD_eq_getElem?_getD, List.getElem?_eq_getElem hi] at hb
    simp only [Option.getD_some, mayB_eq, Bool.not_eq_true', decide_eq_false_iff_not] at hb
    exact hb (h _ (List.getElem_mem hi))
theorem ofE_ok {l : List E} {id : Int} (h1 : 1 ≤ id) (h2 : id ≤ 64) (h : ∀ c ∈ l, Ok c) : ofE l id = ((id, ev l (id, 0)), 0) := by
  unfold ofE
  rw [if_neg (by omega), if_neg (by omega), (oddE_iff l).2 h, if_neg (by decide), evE_ev h (ok_int (by omega) (by omega))]

/-! ### shares -/
abbrev Row := List (Int × E)
def idAt (l : Row) (i : Nat) : Int := (l.getD i (0, (0, 0))).1
def vAt (l : Row) (i : Nat) : E := (l.getD i (0, (0, 0))).2
def xAt (l : Row) (i : Nat) : E := (idAt l i, 0)
/-- all have their own number, 1 to 64 -/
def Apart (l : Row) : Prop := ∀ j, j < l.length → 1 ≤ idAt l j ∧ idAt l j ≤ 64 ∧ ∀ i, i < j → idAt l i ≠ idAt l j
theorem apFrom_iff (l : Row) : ∀ r i, apFrom l r i = true ↔ ∀ j, i ≤ j → j < i + r → 1 ≤ idAt l j ∧ idAt l j ≤ 64 ∧ ∀ m, m < j → idAt l m ≠ idAt l j
  | 0, i => by
    rw [apFrom]
    exact ⟨fun _ j h1 h2 => by omega, fun _ => rfl⟩
  | r + 1, i => by
    rw [apFrom]
    show (if idAt l i < 1 then false else if idAt l i > 64 then false else if seenB l i (idAt l i) = true then false else apFrom l r (i + 1)) = true ↔ _
    have hs : seenB l i (idAt l i) = true ↔ ∃ m, m < i ∧ idAt l m = idAt l i := by
      unfold seenB
      rw [decide_eq_true_eq]
      exact Iff.rfl
    constructor
    · intro h j h1 h2
      split at h
      · cases h
      · split at h
        · cases h
        · split at h
          · cases h
          · rename_i a b c
            by_cases e : j = i
            · subst e
              exact ⟨by omega, by omega, fun m hm he => c (hs.2 ⟨m, hm, he⟩)⟩
            · exact (apFrom_iff l r (i + 1)).1 h j (by omega) (by omega)
    · intro h
      obtain ⟨a, b, c⟩ := h i (Nat.le_refl _) (by omega)
      rw [if_neg (by omega), if_neg (by omega), if_neg (fun h => by obtain ⟨m, h1, h2⟩ := hs.1 h; exact c m h1 h2)]
      exact (apFrom_iff l r (i + 1)).2 fun j h1 h2 => h j (by omega) (by omega)
theorem apB_iff (l : Row) : apB l = true ↔ Apart l := by
  unfold apB Apart
  rw [apFrom_iff]
  exact ⟨fun h j hj => h j (Nat.zero_le _) (by omega), fun h j _ hj => h j (by omega)⟩
theorem Apart.x_ok {l : Row} (h : Apart l) (i : Nat) (hi : i < l.length) : Ok (xAt l i) := by
  obtain ⟨a, b, _⟩ := h i hi
  exact ok_int (by omega) (by omega)
theorem Apart.inj {l : Row} (h : Apart l) (i j : Nat) (hi : i < l.length) (hj : j < l.length) (e : xAt l i = xAt l j) : i = j := by
  have e' : idAt l i = idAt l j := (Prod.mk.inj e).1
  rcases Nat.lt_trichotomy i j with hlt | rfl | hlt
  · exact absurd e' ((h j hj).2.2 i hlt)
  · rfl
  · exact absurd e'.symm ((h i hi).2.2 j hlt)
theorem Apart.ne0 {l : Row} (h : Apart l) (i : Nat) (hi : i < l.length) : xAt l i ≠ (0, 0) := by
  intro e
  have : idAt l i = 0 := (Prod.mk.inj e).1
  have := (h i hi).1
  omega
theorem sub_ne {x y : E} (hx : Ok x) (hy : Ok y) (h : x ≠ y) : sub x y ≠ (0, 0) := fun e => h (eq_of_sub hx hy e)
theorem invE_inv {x : E} (h : Ok x) (h0 : x ≠ (0, 0)) : invE x = inv x := by
  unfold invE inv
  rw [if_pos h, if_neg h0]
theorem wtFrom_pr {l : Row} (h : Apart l) {k : Nat} (hk : k < l.length) : ∀ r i, i + r = l.length → wtFrom l (idAt l k) k r i (pr (fac (xAt l) (0, 0) k) i) = pr (fac (xAt l) (0, 0) k) l.length
  | 0, i, hi => by rw [wtFrom, show i = l.length by omega]
  | r + 1, i, hi => by
    rw [wtFrom]
    have hs := wtFrom_pr h hk r (i + 1) (by omega)
    rw [pr] at hs
    by_cases e : i = k
    · rw [if_pos e]
      rw [show fac (xAt l) (0, 0) k i = (1, 0) from if_pos e, mul_one (pr_ok _ _)] at hs
      exact hs
    · rw [if_neg e]
      have ok := h.x_ok i (by omega)
      have okk := h.x_ok k hk
      have ne : xAt l i ≠ xAt l k := fun x => e (h.inj i k (by omega) hk x)
      rw [show fac (xAt l) (0, 0) k i = mul (xAt l i) (inv (sub (xAt l i) (xAt l k))) from by
        unfold fac; rw [if_neg e, sub_zero ok]] at hs
      have e2 : opE sub ((l.getD i (0, (0, 0))).1, 0) (idAt l k, 0) = sub (xAt l i) (xAt l k) := opE_of ok okk
      have e3 : opE mul ((l.getD i (0, (0, 0))).1, 0) (inv (sub (xAt l i) (xAt l k))) = mul (xAt l i) (inv (sub (xAt l i) (xAt l k))) := opE_of ok (inv_ok _)
      rw [e2, invE_inv (sub_ok _ _) (sub_ne ok okk ne), e3, opE_of (pr_ok _ _) (mul_ok _ _)]
      exact hs
theorem wtE_lag {l : Row} (h : Apart l) {k : Nat} (hk : k < l.length) : wtE l k = lag (xAt l) l.length (0, 0) k :=
  wtFrom_pr h hk l.length 0 (by omega)
theorem oddS_iff (l : Row) : oddS l = false ↔ ∀ i, i < l.length → Ok (vAt l i) := by
  unfold oddS
  rw [decide_eq_false_iff_not, ix_nonneg]
  constructor
  · intro h i hi
    refine Classical.byContradiction fun hn => h ⟨i, hi, ?_⟩
    simp only [mayB_eq, Bool.not_eq_true', decide_eq_false_iff_not]
    exact hn
  · rintro h ⟨i, hi, hb⟩
    simp only [mayB_eq, Bool.not_eq_true', decide_eq_false_iff_not] at hb
    exact hb (h i hi)
theorem sumFrom_sm {l : Row} {wt g : Nat → E} (hv : ∀ i, i < l.length → Ok (vAt l i)) (hw : ∀ i, i < l.length → Ok (wt i)) (hg : ∀ i, i < l.length → g i = mul (vAt l i) (wt i)) : ∀ r i, i + r = l.length → sumFrom l wt r i (sm g i) = sm g l.length
  | 0, i, hi => by rw [sumFrom, show i = l.length by omega]
  | r + 1, i, hi => by
    rw [sumFrom]
    have hs := sumFrom_sm hv hw hg r (i + 1) (by omega)
    rw [sm, hg i (by omega)] at hs
    have e : opE mul (l.getD i (0, (0, 0))).2 (wt i) = mul (vAt l i) (wt i) := opE_of (hv i (by omega)) (hw i (by omega))
    rw [e, opE_of (sm_ok _ _) (mul_ok _ _)]
    exact hs
/-- What shares that are apart open. -/
def secret (l : Row) : E := sm (fun k => mul (vAt l k) (lag (xAt l) l.length (0, 0) k)) l.length
theorem lag_ok (X : Nat → E) (n : Nat) (z : E) (k : Nat) : Ok (lag X n z k) := pr_ok _ _
theorem openE_yes {l : Row} (h0 : l.length ≠ 0) (h : Apart l) (hv : ∀ i, i < l.length → Ok (vAt l i)) : openE l (wtE l) = (secret l, 0) := by
  unfold openE
  rw [if_neg h0, (apB_iff l).2 h, if_neg (by decide), (oddS_iff l).2 hv, if_neg (by decide)]
  have := sumFrom_sm (wt := wtE l) (g := fun k => mul (vAt l k) (lag (xAt l) l.length (0, 0) k)) hv (fun i hi => by rw [wtE_lag h hi]; exact lag_ok _ _ _ _) (fun i hi => by rw [wtE_lag h hi]) l.length 0 (by omega)
  rw [show ((0, 0) : E) = sm (fun k => mul (vAt l k) (lag (xAt l) l.length (0, 0) k)) 0 from rfl, this]
  rfl
theorem openE_no {l : Row} (h : ¬ (l.length ≠ 0 ∧ Apart l ∧ ∀ i, i < l.length → Ok (vAt l i))) : openE l (wtE l) = ((0, 0), 1) := by
  unfold openE
  by_cases h0 : l.length = 0
  · rw [if_pos h0]
  · rw [if_neg h0]
    cases h1 : apB l with
    | false => rw [if_pos rfl]
    | true =>
      rw [if_neg (by decide)]
      cases h2 : oddS l with
      | true => rw [if_pos rfl]
      | false => exact absurd ⟨h0, (apB_iff l).1 h1, (oddS_iff l).1 h2⟩ h
/-- Shares of one polynomial open its value at 0. -/
theorem secret_of {l : Row} (h : Apart l) {f : E → E} (hk : OkF f) {n : Nat} (hn : n ≤ l.length) (hf : Pl n f) (hv : ∀ i, i < l.length → vAt l i = f (xAt l i)) : secret l = f (0, 0) := by
  have := lagrange (X := xAt l) (n := l.length) h.x_ok h.inj hk (pl_up hn hf) (0, 0) zero_ok
  rw [← this]
  unfold secret
  exact sm_congr fun i hi => by rw [hv i hi]

/-- The polynomial function that has the shares. -/
def interp (l : Row) (z : E) : E := sm (fun k => mul (vAt l k) (lag (xAt l) l.length z k)) l.length
theorem interp_ok (l : Row) : OkF (interp l) := fun x _ => sm_ok _ _
theorem pl_interp (l : Row) : Pl l.length (interp l) := pl_sm fun k hk => pl_scale _ (by
  have := pl_lag (xAt l) k l.length
  rw [if_pos hk] at this
  exact this)
theorem interp_at {l : Row} (h : Apart l) (hv : ∀ i, i < l.length → Ok (vAt l i)) {j : Nat} (hj : j < l.length) : interp l (xAt l j) = vAt l j := by
  unfold interp
  rw [sm_single hj (mul_ok _ _) (fun i hi hne => by rw [lag_at h.x_ok h.inj hj hi, if_neg (Ne.symm hne), mul_zero])]
  rw [lag_at h.x_ok h.inj hj hj, if_pos rfl, mul_one (hv j hj)]
theorem rev_at (l : Row) {i : Nat} (hi : i < l.length) : l.reverse.getD i (0, (0, 0)) = l.getD (l.length - 1 - i) (0, (0, 0)) := by
  rw [List.getD_eq_getElem?_getD, List.getD_eq_getElem?_getD, List.getElem?_reverse hi]
theorem Apart.rev {l : Row} (h : Apart l) : Apart l.reverse := by
  intro j hj
  rw [List.length_reverse] at hj
  have e : ∀ i, i < l.length → idAt l.reverse i = idAt l (l.length - 1 - i) := fun i hi => congrArg (·.1) (rev_at l hi)
  rw [e j hj]
  obtain ⟨a, b, _⟩ := h (l.length - 1 - j) (by omega)
  refine ⟨a, b, fun i hi => ?_⟩
  rw [e i (by omega)]
  intro he
  have := h.inj (l.length - 1 - i) (l.length - 1 - j) (by omega) (by omega) (by unfold xAt; rw [he])
  omega
theorem open_rev (l : Row) : openE l.reverse (wtE l.reverse) = openE l (wtE l) := by
  have hv : ∀ i, i < l.length → vAt l.reverse i = vAt l (l.length - 1 - i) := fun i hi => congrArg (·.2) (rev_at l hi)
  have hx : ∀ i, i < l.length → xAt l.reverse i = xAt l (l.length - 1 - i) := fun i hi => by
    unfold xAt idAt
    rw [rev_at l hi]
  by_cases h : l.length ≠ 0 ∧ Apart l ∧ ∀ i, i < l.length → Ok (vAt l i)
  · obtain ⟨h0, ha, hk⟩ := h
    rw [openE_yes h0 ha hk, openE_yes (by rw [List.length_reverse]; exact h0) ha.rev (fun i hi => by rw [List.length_reverse] at hi; rw [hv i hi]; exact hk _ (by omega))]
    rw [secret_of ha.rev (interp_ok l) (n := l.length) (by rw [List.length_reverse]; exact Nat.le_refl _) (pl_interp l) (fun i hi => by
      rw [List.length_reverse] at hi
      rw [hv i hi, hx i hi, interp_at ha hk (by omega)])]
    rfl
  · rw [openE_no h, openE_no]
    rintro ⟨h0, ha, hk⟩
    refine h ⟨by rw [List.length_reverse] at h0; exact h0, ?_, ?_⟩
    · have := ha.rev
      rw [List.reverse_reverse] at this
      exact this
    · intro i hi
      have := hk (l.length - 1 - i) (by rw [List.length_reverse]; omega)
      rw [hv _ (by omega), show l.length - 1 - (l.length - 1 - i) = i by omega] at this
      exact this

/-! ### the document's example -/
theorem inv_one : invE (1, 0) = (1, 0) := by
  rw [invE_inv (by decide) (by decide)]
  exact inv_unique (inv_ok _) (by decide) (mul_inv' (by decide) (by decide)) (by decide)
def shownL : Row := [(1, (8, 0)), (2, (11, 0))]
theorem shown_of1 : ofE [(5, 0), (3, 0)] 1 = ((1, (8, 0)), 0) := by
  rw [ofE_ok (by decide) (by decide) (by decide)]; decide
theorem shown_of2 : ofE [(5, 0), (3, 0)] 2 = ((2, (11, 0)), 0) := by
  rw [ofE_ok (by decide) (by decide) (by decide)]; decide
theorem shown_open : openE shownL (wtE shownL) = ((5, 0), 0) := by
  have ha : Apart shownL := by
    intro j hj
    match j, hj with
    | 0, _ => exact ⟨by decide, by decide, fun i hi => by omega⟩
    | 1, _ => exact ⟨by decide, by decide, fun i hi => by obtain rfl : i = 0 := by omega
                                                          decide⟩
  have hv : ∀ i, i < shownL.length → Ok (vAt shownL i) := by
    intro j hj
    match j, hj with
    | 0, _ => decide
    | 1, _ => decide
  rw [openE_yes (by decide) ha hv, secret_of ha (f := ev [(5, 0), (3, 0)]) (fun x _ => ev_ok _ _) (n := 2) (by decide) (pl_ev [(5, 0), (3, 0)] (by decide)) ?_]
  · decide
  · intro j hj
    match j, hj with
    | 0, _ => decide
    | 1, _ => decide

/-! ### a bound -/
theorem nodup_le : ∀ (n : Nat) (l : List Int), l.Nodup → (∀ x ∈ l, 1 ≤ x ∧ x ≤ n) → l.length ≤ n
  | 0, l, _, h => by
    cases l with
    | nil => exact Nat.le_refl _
    | cons a l => have := h a (by simp); omega
  | n + 1, l, hd, h => by
    by_cases hm : ((n + 1 : Nat) : Int) ∈ l
    · have := nodup_le n (l.erase ((n + 1 : Nat) : Int)) (hd.erase _) (fun x hx => by
        have h1 := (List.Nodup.mem_erase_iff hd).1 hx
        have h2 := h x h1.2
        have h3 := h1.1
        omega)
      rw [List.length_erase_of_mem hm] at this
      omega
    · have := nodup_le n l hd (fun x hx => by
        have h2 := h x hx
        have : x ≠ ((n + 1 : Nat) : Int) := fun e => hm (e ▸ hx)
        omega)
      omega
end Go.Proofs.Ytokkkeepifpbpaa.Fl
