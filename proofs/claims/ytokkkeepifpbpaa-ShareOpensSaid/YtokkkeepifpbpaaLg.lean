import Derived.Test.YtokkkeepifpbpaaGm
namespace Go.Proofs.Ytokkkeepifpbpaa.Gm

/-! ring facts, by hand -/
theorem add_left_comm (x y z : E) : add x (add y z) = add y (add x z) := by rw [← add_assoc, add_comm x y, add_assoc]
theorem mul_left_comm (x y z : E) : mul x (mul y z) = mul y (mul x z) := by rw [← mul_assoc, mul_comm x y, mul_assoc]
theorem zero_add {x : E} (h : Ok x) : add (0, 0) x = x := by rw [add_comm]; exact add_zero h
theorem add_mul (x y z : E) : mul (add x y) z = add (mul x z) (mul y z) := by rw [mul_comm, mul_add, mul_comm z x, mul_comm z y]
theorem sub_mul (x y z : E) : mul (sub x y) z = sub (mul x z) (mul y z) := by rw [mul_comm, mul_sub, mul_comm z x, mul_comm z y]
theorem sub_zero {x : E} (h : Ok x) : sub x (0, 0) = x := by
  unfold sub gsub; simp only [Int.sub_zero]; exact red_of_ok h
theorem eq_of_sub {x y : E} (hx : Ok x) (hy : Ok y) (h : sub x y = (0, 0)) : x = y := by
  have := sub_add_cancel y hx
  rw [h, zero_add hy] at this; exact this.symm
theorem cg_add_red (x y : E) : red (gadd (red x) (red y)) = red (gadd x y) := cg_add (cg_red x) (cg_red y)
theorem cg_sub_red (x y : E) : red (gsub (red x) (red y)) = red (gsub x y) := cg_sub (cg_red x) (cg_red y)
theorem cg_mul_red (x y : E) : red (gmul (red x) (red y)) = red (gmul x y) := cg_mul (cg_red x) (cg_red y)

/-! polynomial functions -/
def Pl : Nat → (E → E) → Prop
  | 0, f => ∀ x, Ok x → f x = (0, 0)
  | n + 1, f => ∀ a, Ok a → ∃ q : E → E, Pl n q ∧ (∀ x, Ok x → Ok (q x)) ∧ ∀ x, Ok x → f x = add (f a) (mul (sub x a) (q x))
def OkF (f : E → E) : Prop := ∀ x, Ok x → Ok (f x)

theorem pl_zero (n : Nat) : Pl n (fun _ => (0, 0)) := by
  induction n with
  | zero => exact fun _ _ => rfl
  | succ n ih => exact fun a _ => ⟨_, ih, fun _ _ => zero_ok, fun x _ => by rw [mul_zero, add_zero zero_ok]⟩
theorem pl_congr {n : Nat} {f g : E → E} (h : ∀ x, Ok x → f x = g x) (hf : Pl n f) : Pl n g := by
  cases n with
  | zero => exact fun x hx => by rw [← h x hx]; exact hf x hx
  | succ n =>
    intro a ha
    obtain ⟨q, hq, hk, he⟩ := hf a ha
    exact ⟨q, hq, hk, fun x hx => by rw [← h x hx, ← h a ha]; exact he x hx⟩
theorem pl_mono {n : Nat} {f : E → E} (hf : Pl n f) : Pl (n + 1) f := by
  induction n generalizing f with
  | zero => exact fun a ha => ⟨_, pl_zero 0, fun _ _ => zero_ok, fun x hx => by rw [hf x hx, hf a ha, mul_zero, add_zero zero_ok]⟩
  | succ n ih =>
    intro a ha
    obtain ⟨q, hq, hk, he⟩ := hf a ha
    exact ⟨q, ih hq, hk, he⟩
theorem pl_up {m n : Nat} (h : m ≤ n) {f : E → E} (hf : Pl m f) : Pl n f := by
  induction n with
  | zero => obtain rfl : m = 0 := by omega
            exact hf
  | succ n ih =>
    by_cases e : m = n + 1
    · subst e; exact hf
    · exact pl_mono (ih (by omega))
theorem pl_const {c : E} (hc : Ok c) (n : Nat) : Pl (n + 1) (fun _ => c) :=
  fun _ _ => ⟨_, pl_zero n, fun _ _ => zero_ok, fun _ _ => by rw [mul_zero, add_zero hc]⟩
theorem pl_add {n : Nat} {f g : E → E} (hf : Pl n f) (hg : Pl n g) : Pl n (fun x => add (f x) (g x)) := by
  induction n generalizing f g with
  | zero => exact fun x hx => by show add (f x) (g x) = _; rw [hf x hx, hg x hx]; rfl
  | succ n ih =>
    intro a ha
    obtain ⟨q, hq, hqk, he⟩ := hf a ha
    obtain ⟨r, hr, hrk, hd⟩ := hg a ha
    refine ⟨_, ih hq hr, fun _ _ => add_ok _ _, fun x hx => ?_⟩
    simp only
    rw [he x hx, hd x hx, mul_add, add_assoc, add_assoc]
    congr 1
    rw [add_left_comm]
theorem pl_scale {n : Nat} {f : E → E} (c : E) (hf : Pl n f) : Pl n (fun x => mul c (f x)) := by
  induction n generalizing f with
  | zero => exact fun x hx => by show mul c (f x) = _; rw [hf x hx, mul_zero]
  | succ n ih =>
    intro a ha
    obtain ⟨q, hq, hqk, he⟩ := hf a ha
    refine ⟨_, ih hq, fun _ _ => mul_ok _ _, fun x hx => ?_⟩
    simp only
    rw [he x hx, mul_add, mul_left_comm]
def negone : E := (10006, 0)
theorem negone_ok : Ok negone := by decide
theorem sub_eq (x y : E) : sub x y = add x (mul negone y) := by
  have h : Cg (gadd x (red (gmul negone y))) (gadd x (gmul negone y)) := cg_add (Cg.rfl' x) (cg_red _)
  show red (gsub x y) = red (gadd x (red (gmul negone y)))
  rw [show red (gadd x (red (gmul negone y))) = red (gadd x (gmul negone y)) from h]
  show Cg _ _
  rw [cg_dvd]
  unfold gsub gadd gmul negone
  exact ⟨⟨-y.1, by simp only; omega⟩, ⟨-y.2, by simp only; omega⟩⟩
theorem pl_sub {n : Nat} {f g : E → E} (hf : Pl n f) (hg : Pl n g) : Pl n (fun x => sub (f x) (g x)) :=
  pl_congr (fun _ _ => (sub_eq _ _).symm) (pl_add hf (pl_scale negone hg))
/-- (b - x) f(x). -/
theorem pl_lin {n : Nat} {f : E → E} (b : E) (hk : OkF f) (hf : Pl n f) : Pl (n + 1) (fun x => mul (sub b x) (f x)) := by
  induction n generalizing f with
  | zero => exact pl_congr (fun x hx => by rw [hf x hx, mul_zero]) (pl_zero 1)
  | succ n ih =>
    intro a ha
    obtain ⟨q, hq, hqk, he⟩ := hf a ha
    refine ⟨_, pl_sub (ih hqk hq) (pl_const (hk a ha) n), fun _ _ => sub_ok _ _, fun x hx => ?_⟩
    simp only
    rw [he x hx]
    generalize f a = y
    generalize q x = z
    show red (gmul (red (gsub b x)) (red (gadd y (red (gmul (red (gsub x a)) z))))) = red (gadd (red (gmul (red (gsub b a)) y)) (red (gmul (red (gsub x a)) (red (gsub (red (gmul (red (gsub b x)) z)) y)))))
    have e1 : Cg (gmul (red (gsub b x)) (red (gadd y (red (gmul (red (gsub x a)) z))))) (gmul (gsub b x) (gadd y (gmul (gsub x a) z))) :=
      cg_mul (cg_red _) ((cg_red _).trans (cg_add (Cg.rfl' y) ((cg_red _).trans (cg_mul (cg_red _) (Cg.rfl' z)))))
    have e2 : Cg (gadd (red (gmul (red (gsub b a)) y)) (red (gmul (red (gsub x a)) (red (gsub (red (gmul (red (gsub b x)) z)) y))))) (gadd (gmul (gsub b a) y) (gmul (gsub x a) (gsub (gmul (gsub b x) z) y))) :=
      cg_add ((cg_red _).trans (cg_mul (cg_red _) (Cg.rfl' y))) ((cg_red _).trans (cg_mul (cg_red _) ((cg_red _).trans (cg_sub ((cg_red _).trans (cg_mul (cg_red _) (Cg.rfl' z))) (Cg.rfl' y)))))
    refine e1.trans (Eq.trans (congrArg red ?_) e2.symm)
    unfold gmul gadd gsub
    ext <;> simp only <;> grind
/-- c + x f(x). -/
theorem pl_horner {n : Nat} {f : E → E} {c : E} (hk : OkF f) (hc : Ok c) (hf : Pl n f) : Pl (n + 1) (fun x => add (mul (f x) x) c) := by
  have h1 := pl_scale negone (pl_lin (0, 0) hk hf)
  refine pl_congr (fun x hx => ?_) (pl_add h1 (pl_const hc n))
  congr 1
  have e : mul negone (sub (0, 0) x) = x := by
    have e1 : Cg (gmul negone (red (gsub (0, 0) x))) (gmul negone (gsub (0, 0) x)) := cg_mul (Cg.rfl' _) (cg_red _)
    have e2 : Cg (gmul negone (gsub (0, 0) x)) x := by
      rw [cg_dvd]; unfold gmul gsub negone
      exact ⟨⟨-x.1, by simp only; omega⟩, ⟨-x.2, by simp only; omega⟩⟩
    have := e1.trans e2
    unfold Cg at this; rw [red_of_ok hx] at this; exact this
  rw [← mul_assoc, e, mul_comm]
/-- A polynomial that is 0 at as many places as it has coefficients is 0. -/
theorem pl_roots {n : Nat} {f : E → E} (hf : Pl n f) (X : Nat → E) (hX : ∀ i, i < n → Ok (X i)) (hne : ∀ i j, i < n → j < n → X i = X j → i = j) (h0 : ∀ i, i < n → f (X i) = (0, 0)) (x : E) (hx : Ok x) : f x = (0, 0) := by
  induction n generalizing f with
  | zero => exact hf x hx
  | succ n ih =>
    obtain ⟨q, hq, hqk, he⟩ := hf (X n) (hX n (by omega))
    have hfe : ∀ x, Ok x → f x = mul (sub x (X n)) (q x) := fun x hx => by rw [he x hx, h0 n (by omega), zero_add (mul_ok _ _)]
    have hq0 : ∀ i, i < n → q (X i) = (0, 0) := by
      intro i hi
      have h1 := hfe (X i) (hX i (by omega))
      rw [h0 i (by omega)] at h1
      rcases (mul_zero_iff (sub_ok _ _) (hqk _ (hX i (by omega)))).1 h1.symm with h2 | h2
      · have := hne i n (by omega) (by omega) (eq_of_sub (hX i (by omega)) (hX n (by omega)) h2)
        omega
      · exact h2
    rw [hfe x hx, ih hq (fun i hi => hX i (by omega)) (fun i j hi hj => hne i j (by omega) (by omega)) hq0, mul_zero]

/-! sums and products -/
def sm (g : Nat → E) : Nat → E
  | 0 => (0, 0)
  | n + 1 => add (sm g n) (g n)
def pr (g : Nat → E) : Nat → E
  | 0 => (1, 0)
  | n + 1 => mul (pr g n) (g n)
theorem sm_ok (g : Nat → E) (n : Nat) : Ok (sm g n) := by cases n with | zero => exact zero_ok | succ n => exact add_ok _ _
theorem pr_ok (g : Nat → E) (n : Nat) : Ok (pr g n) := by cases n with | zero => exact one_ok | succ n => exact mul_ok _ _
theorem sm_congr {g h : Nat → E} {n : Nat} (e : ∀ i, i < n → g i = h i) : sm g n = sm h n := by
  induction n with
  | zero => rfl
  | succ n ih => rw [sm, sm, ih (fun i hi => e i (by omega)), e n (by omega)]
theorem pr_congr {g h : Nat → E} {n : Nat} (e : ∀ i, i < n → g i = h i) : pr g n = pr h n := by
  induction n with
  | zero => rfl
  | succ n ih => rw [pr, pr, ih (fun i hi => e i (by omega)), e n (by omega)]
theorem pr_zero {g : Nat → E} {n : Nat} (i : Nat) (hi : i < n) (h : g i = (0, 0)) : pr g n = (0, 0) := by
  induction n with
  | zero => omega
  | succ n ih =>
    rw [pr]
    by_cases e : i = n
    · subst e; rw [h, mul_zero]
    · rw [ih (by omega), zero_mul]
theorem pr_one {g : Nat → E} {n : Nat} (h : ∀ i, i < n → g i = (1, 0)) : pr g n = (1, 0) := by
  induction n with
  | zero => rfl
  | succ n ih => rw [pr, ih (fun i hi => h i (by omega)), h n (by omega)]; decide
theorem pr_ne {g : Nat → E} {n : Nat} (hk : ∀ i, i < n → Ok (g i)) (h : ∀ i, i < n → g i ≠ (0, 0)) : pr g n ≠ (0, 0) := by
  induction n with
  | zero => rw [pr]; decide
  | succ n ih =>
    rw [pr]
    intro e
    rcases (mul_zero_iff (pr_ok _ _) (hk n (by omega))).1 e with e | e
    · exact ih (fun i hi => hk i (by omega)) (fun i hi => h i (by omega)) e
    · exact h n (by omega) e
theorem pr_mul (g h : Nat → E) (n : Nat) : pr (fun i => mul (g i) (h i)) n = mul (pr g n) (pr h n) := by
  induction n with
  | zero => rfl
  | succ n ih =>
    rw [pr, pr, pr, ih, mul_assoc, mul_assoc]; congr 1; rw [mul_left_comm]
theorem sm_single {g : Nat → E} {n k : Nat} (hk : k < n) (hok : Ok (g k)) (h : ∀ i, i < n → i ≠ k → g i = (0, 0)) : sm g n = g k := by
  induction n with
  | zero => omega
  | succ n ih =>
    rw [sm]
    by_cases e : k = n
    · subst e
      have : sm g k = (0, 0) := by
        rw [sm_congr (h := fun _ => (0, 0)) (fun i hi => h i (by omega) (by omega))]
        clear ih h hok hk g
        induction k with
        | zero => rfl
        | succ k ih => rw [sm, ih]; rfl
      rw [this, zero_add hok]
    · rw [ih (by omega) (fun i hi => h i (by omega)), h n (by omega) (by omega), add_zero hok]
theorem sm_add (g h : Nat → E) (n : Nat) : sm (fun i => add (g i) (h i)) n = add (sm g n) (sm h n) := by
  induction n with
  | zero => rfl
  | succ n ih => rw [sm, sm, sm, ih, add_assoc, add_assoc]; congr 1; rw [add_left_comm]
theorem pl_sm {m : Nat} {g : Nat → E → E} {n : Nat} (h : ∀ i, i < n → Pl m (g i)) : Pl m (fun x => sm (fun i => g i x) n) := by
  induction n with
  | zero => exact pl_zero m
  | succ n ih => exact pl_add (ih (fun i hi => h i (by omega))) (h n (by omega))

/-- The inverse, as it is reckoned. -/
def inv (x : E) : E := pow x NN
theorem inv_ok (x : E) : Ok (inv x) := pow_ok _ _
theorem mul_inv' {x : E} (h : Ok x) (h0 : x ≠ (0, 0)) : mul x (inv x) = (1, 0) := mul_inv h h0
/-- The factor of place i for place k, at z. -/
def fac (X : Nat → E) (z : E) (k i : Nat) : E := if i = k then (1, 0) else mul (sub (X i) z) (inv (sub (X i) (X k)))
def lag (X : Nat → E) (n : Nat) (z : E) (k : Nat) : E := pr (fac X z k) n
theorem pl_lag (X : Nat → E) (k n : Nat) : Pl (if k < n then n else n + 1) (fun z => lag X n z k) := by
  unfold lag
  induction n with
  | zero => exact pl_const one_ok 0
  | succ n ih =>
    have hk : OkF (fun z => pr (fac X z k) n) := fun _ _ => pr_ok _ _
    by_cases e : n = k
    · subst e
      rw [if_neg (Nat.lt_irrefl n)] at ih
      rw [if_pos (Nat.lt_succ_self n)]
      refine pl_congr (fun z hz => ?_) ih
      rw [pr, fac, if_pos rfl, mul_one (pr_ok _ _)]
    · have h1 := pl_scale (inv (sub (X n) (X k))) (pl_lin (X n) hk ih)
      have e2 : (if k < n + 1 then n + 1 else n + 1 + 1) = (if k < n then n else n + 1) + 1 := by
        split <;> split <;> omega
      rw [e2]
      refine pl_congr (fun z hz => ?_) h1
      rw [pr, fac, if_neg e, mul_comm (inv _), mul_comm (sub _ _) (pr _ _), mul_assoc]
theorem lag_at {X : Nat → E} {n : Nat} (hX : ∀ i, i < n → Ok (X i)) (hne : ∀ i j, i < n → j < n → X i = X j → i = j) {j k : Nat} (hj : j < n) (hk : k < n) : lag X n (X j) k = if j = k then (1, 0) else (0, 0) := by
  unfold lag
  by_cases e : j = k
  · subst e
    rw [if_pos rfl]
    refine pr_one fun i hi => ?_
    unfold fac
    split
    · rfl
    · rename_i h
      exact mul_inv' (sub_ok _ _) (fun h2 => h (hne i j hi hj (eq_of_sub (hX i hi) (hX j hj) h2)))
  · rw [if_neg e]
    refine pr_zero j hj ?_
    rw [fac, if_neg e, sub_self, zero_mul]
/-- LAGRANGE: the polynomial of as many coefficients as there are places, at most, out of its values there. -/
theorem lagrange {X : Nat → E} {n : Nat} (hX : ∀ i, i < n → Ok (X i)) (hne : ∀ i j, i < n → j < n → X i = X j → i = j) {f : E → E} (hk : OkF f) (hf : Pl n f) (z : E) (hz : Ok z) :
    sm (fun k => mul (f (X k)) (lag X n z k)) n = f z := by
  have hp : Pl n (fun z => sub (sm (fun k => mul (f (X k)) (lag X n z k)) n) (f z)) := by
    refine pl_sub (pl_sm fun i hi => ?_) hf
    have := pl_scale (f (X i)) (pl_lag X i n)
    rw [if_pos hi] at this
    exact this
  have h0 : ∀ j, j < n → sub (sm (fun k => mul (f (X k)) (lag X n (X j) k)) n) (f (X j)) = (0, 0) := by
    intro j hj
    have e : sm (fun k => mul (f (X k)) (lag X n (X j) k)) n = f (X j) := by
      rw [sm_single (k := j) hj (mul_ok _ _)]
      · rw [lag_at hX hne hj hj, if_pos rfl, mul_one (hk _ (hX j hj))]
      · intro i hi hij
        rw [lag_at hX hne hj hi, if_neg (fun e => hij e.symm), mul_zero]
    rw [e, sub_self]
  exact eq_of_sub (sm_ok _ _) (hk z hz) (pl_roots hp X hX hne h0 z hz)

/-! evaluation -/
def ev : List E → E → E
  | [], _ => (0, 0)
  | c :: p, x => add (mul (ev p x) x) c
theorem ev_ok (p : List E) (x : E) : Ok (ev p x) := by cases p with | nil => exact zero_ok | cons c p => exact add_ok _ _
theorem pl_ev (p : List E) (h : ∀ c ∈ p, Ok c) : Pl p.length (ev p) := by
  induction p with
  | nil => exact fun _ _ => rfl
  | cons c p ih =>
    exact pl_horner (fun x _ => ev_ok p x) (h c List.mem_cons_self) (ih fun d hd => h d (List.mem_cons_of_mem _ hd))
theorem ev_zero (c : E) (p : List E) (h : Ok c) : ev (c :: p) (0, 0) = c := by rw [ev, mul_zero, zero_add h]
theorem ev_add (p q : List E) (h : p.length = q.length) (x : E) : ev (List.zipWith add p q) x = add (ev p x) (ev q x) := by
  induction p generalizing q with
  | nil => cases q with
    | nil => rfl
    | cons d q => simp at h
  | cons c p ih => cases q with
    | nil => simp at h
    | cons d q =>
      have := ih q (by simpa using h)
      rw [List.zipWith_cons_cons, ev, ev, ev, this, add_mul, add_assoc, add_assoc]
      congr 1
      rw [add_left_comm]
end Go.Proofs.Ytokkkeepifpbpaa.Gm
