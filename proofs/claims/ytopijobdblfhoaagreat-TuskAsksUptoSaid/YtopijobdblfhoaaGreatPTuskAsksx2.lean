-- written by a program of this session (pp.py), out of the kit's print and this session's contracts
import Derived.Test.YtopijobdblfhoaaGreatPTuskAsksx0
import Derived.Test.YtopijobdblfhoaaGreatPTuskAsksx1
import Derived.Test.YtopijobdblfhoaaGreatVTuskAsksPi
namespace Go.Proofs.YtopijobdblfhoaaGreat.PTuskAsks
open Go.RowKit Go.Proofs.YtopijobdblfhoaaGreatW.PrintWords Go.Proofs.YtopijobdblfhoaaGreatW.PrintLast Go.Proofs.YtopijobdblfhoaaGreatW.PrintMore
set_option linter.unusedVariables false
set_option linter.unusedSimpArgs false

attribute [local go_sem high] eqA28
abbrev SE := S32
def RelE (W : World) (ok : Nat → Prop) (r : Si.ER) (x : SE) : Prop := r.d = x.f0 ∧ r.au = x.f1.f0 ∧ r.ro = x.f1.f1 ∧ r.n3 = x.f1.f2.length ∧ x.f1.f2.length ≤ r.c3 ∧ Kd.F k107 W ok r.A3 x.f1.f2.length x.f1.f2 ∧ r.n4 = x.f1.f3.length ∧ x.f1.f3.length ≤ r.c4 ∧ Kd.F Kd.string W ok r.A4 x.f1.f3.length x.f1.f3 ∧ r.ea = x.f1.f4.f0 ∧ r.eb = x.f1.f4.f1
def RelsE (W : World) (ok : Nat → Prop) : List Si.ER → List SE → Prop
 | [], [] => True
 | r :: rs, x :: xs => RelE W ok r x ∧ RelsE W ok rs xs
 | _, _ => False
theorem RelsE.len {W : World} {ok : Nat → Prop} : ∀ {rs : List Si.ER} {xs : List SE}, RelsE W ok rs xs → rs.length = xs.length
 | [], [], _ => rfl
 | r :: rs, x :: xs, h => by simp [RelsE.len h.2]
 | [], x :: xs, h => h.elim
 | r :: rs, [], h => h.elim
theorem relsE_of {W : World} {ok : Nat → Prop} {ad : Addr} : ∀ (ms : List SE) (k : Nat), (∀ j x, ms[j]? = some x → ∃ r : Si.ER, RelE W ok r x ∧ ∀ (i : Nat) (u : Value), r.cs[i]? = some u → W.cell? (ad.add ((k + j) * 7 + i)) = some u) →
  ∃ rs, RelsE W ok rs ms ∧ ∀ (j : Nat) (r : Si.ER), rs[j]? = some r → ∀ (i : Nat) (u : Value), r.cs[i]? = some u → W.cell? (ad.add ((k + j) * 7 + i)) = some u
 | [], k, _ => ⟨[], trivial, fun j r h => by simp at h⟩
 | m :: ms, k, h => by
  obtain ⟨r, hr, hc⟩ := h 0 m rfl
  obtain ⟨rs, hrs, hcs⟩ := relsE_of (W := W) (ok := ok) (ad := ad) ms (k + 1) (fun j x hx => by
   have := h (j + 1) x (by simpa using hx)
   rw [show k + 1 + j = k + (j + 1) by omega]; exact this)
  refine ⟨r :: rs, ⟨hr, hrs⟩, fun j r' hr' => ?_⟩
  cases j with
  | zero =>
   have e : r = r' := by simpa using hr'
   subst e; exact hc
  | succ j =>
   have := hcs j r' (by simpa using hr')
   rw [show k + 1 + j = k + (j + 1) by omega] at this; exact this
theorem F_relsE {W : World} {ok : Nat → Prop} {A : Option Addr} {ms : List SE} (h : Kd.F k32 W ok A ms.length ms) : ∃ rs, RelsE W ok rs ms ∧ Si.Rowentry W A rs := by
 obtain ⟨_, _, hn⟩ := Kd.F_rows h
 by_cases h0 : 0 < ms.length
 ·
  obtain ⟨ad, rfl, hc⟩ := hn h0
  obtain ⟨rs, hrs, hcs⟩ := relsE_of (W := W) (ok := ok) (ad := ad) ms 0 (fun j x hx => by
   obtain ⟨cs, _, hK, hcell⟩ := hc j x hx
   obtain ⟨A3, c3, A4, c4, rfl, l3, m0, l4, a0⟩ := k32_openF hK
   have e3 : (k32).sz = 7 := rfl
   rw [e3] at hcell
   rw [Nat.zero_add]
   exact ⟨⟨x.f0, x.f1.f0, x.f1.f1, A3, x.f1.f2.length, c3, A4, x.f1.f3.length, c4, x.f1.f4.f0, x.f1.f4.f1⟩, ⟨rfl, rfl, rfl, rfl, l3, m0, rfl, l4, a0, rfl, rfl⟩, hcell⟩)
  refine ⟨rs, hrs, fun i x hx => ⟨ad, rfl, ?_⟩⟩
  have q := hcs i x hx
  rw [Nat.zero_add] at q
  rw [Si.add_more _ _ _ (by omega), Si.add_more _ _ _ (by omega), Si.add_more _ _ _ (by omega), Si.add_more _ _ _ (by omega), Si.add_more _ _ _ (by omega), Si.add_more _ _ _ (by omega)]
  exact ⟨q 0 _ rfl, q 1 _ rfl, q 2 _ rfl, q 3 _ rfl, q 4 _ rfl, q 5 _ rfl, q 6 _ rfl⟩
 have e : ms = [] := List.eq_nil_of_length_eq_zero (by omega)
 subst e
 exact ⟨[], trivial, fun i x hx => by simp at hx⟩
theorem first_rel {W : World} {ok : Nat → Prop} (p : Si.ER → Bool) (q : SE → Bool) (hpq : ∀ r x, RelE W ok r x → p r = q x) : ∀ (rs : List Si.ER) (l : List SE), RelsE W ok rs l → (match l.find? q with
  | some x => (Si.firstE p rs).2 = true ∧ RelE W ok (Si.firstE p rs).1 x
  | none => Si.firstE p rs = (Si.zER, false))
 | [], [], _ => rfl
 | r :: rs, x :: xs, h => by
  rw [Si.firstE_cons, List.find?_cons]
  have e := hpq r x h.1
  cases hq : q x with
  | true => rw [hq] at e; rw [if_pos e]; exact ⟨rfl, h.1⟩
  | false => rw [hq] at e; rw [if_neg (by rw [e]; decide)]; exact first_rel p q hpq rs xs h.2
 | [], x :: xs, h => h.elim
 | r :: rs, [], h => h.elim
def G8.f (a0_0 : Int) (a0_1 : Int) : Option (Bool) := if a0_0 ≥ 0 then (if a0_0 < 10007 then (if a0_1 ≥ 0 then (some (decide (a0_1 < 10007))) else (some false)) else (some false)) else (some false)
set_option maxHeartbeats 8000000 in
set_option maxRecDepth 100000 in
theorem G8.calls (a0_0 : Int) (a0_1 : Int) (r : Bool) (w : World) (h : G8.f a0_0 a0_1 = some r) :
  Calls Tryz.prog 69 #[.agg #[.int .i64 a0_0, .int .i64 a0_1]] w fun e w' => e = .returned (.bool r) ∧ Below w.heap.size w w' := by
 have P0 := Tryz.underlying28
 have HB := am_ (Below.refl w.heap.size w)
 have H : (if a0_0 ≥ 0 then (if a0_0 < 10007 then (if a0_1 ≥ 0 then (some (decide (a0_1 < 10007))) else (some false)) else (some false)) else (some false)) = some r := h
 clear h
 by_cases c2 : a0_0 ≥ 0
 ·
  rw [if_pos c2] at H
  have A0 : decide (0 ≤ a0_0) = true := decide_eq_true c2
  clear c2
  by_cases c3 : a0_0 < 10007
  ·
   rw [if_pos c3] at H
   have u0 : decide (a0_0 < 10007) = true := decide_eq_true c3
   clear c3
   by_cases c4 : a0_1 ≥ 0
   ·
    rw [if_pos c4] at H
    have z0 : decide (0 ≤ a0_1) = true := decide_eq_true c4
    clear c4
    obtain rfl := Option.some.inj H
    go_enter Tryz.func69, Tryz.ntmps69
    go_wp2_with (first | ((with_reducible refine gd_ 1 ?_); refine be_ 1 #[.int .i64 a0_0, .int .i64 a0_1] 28 ?_; intro m0 hg w5 hbox hb; have a0 := am_ hbox; have n0 := tG HB hg; have o0 := tG HB hg; replace HB := tHb HB hb; clear hb hbox hg; obtain ⟨_, _, _, _⟩ := bx2 a0))
    go_ret
    exact ⟨fe, bh HB⟩
   rw [if_neg c4] at H
   have z0 : decide (0 ≤ a0_1) = false := decide_eq_false c4
   clear c4
   obtain rfl := Option.some.inj H
   go_enter Tryz.func69, Tryz.ntmps69
   go_wp2_with (first | ((with_reducible refine gd_ 1 ?_); refine be_ 1 #[.int .i64 a0_0, .int .i64 a0_1] 28 ?_; intro m0 hg w7 hbox hb; have a0 := am_ hbox; have n0 := tG HB hg; have o0 := tG HB hg; replace HB := tHb HB hb; clear hb hbox hg; obtain ⟨Q0, O0, M0, N0⟩ := bx2 a0))
   go_ret
   exact ⟨fe, bh HB⟩
  rw [if_neg c3] at H
  have u0 : decide (a0_0 < 10007) = false := decide_eq_false c3
  clear c3
  obtain rfl := Option.some.inj H
  go_enter Tryz.func69, Tryz.ntmps69
  go_wp2_with (first | ((with_reducible refine gd_ 1 ?_); refine be_ 1 #[.int .i64 a0_0, .int .i64 a0_1] 28 ?_; intro m0 hg w9 hbox hb; have a0 := am_ hbox; have n0 := tG HB hg; have o0 := tG HB hg; replace HB := tHb HB hb; clear hb hbox hg; obtain ⟨_, _, _, _⟩ := bx2 a0))
  go_ret
  exact ⟨fe, bh HB⟩
 rw [if_neg c2] at H
 have A0 : decide (0 ≤ a0_0) = false := decide_eq_false c2
 clear c2
 obtain rfl := Option.some.inj H
 go_enter Tryz.func69, Tryz.ntmps69
 go_wp2_with (first | ((with_reducible refine gd_ 1 ?_); refine be_ 1 #[.int .i64 a0_0, .int .i64 a0_1] 28 ?_; intro m0 hg U0 hbox hb; have a0 := am_ hbox; have n0 := tG HB hg; have o0 := tG HB hg; replace HB := tHb HB hb; clear hb hbox hg; obtain ⟨I0, L0, E0, C0⟩ := bx2 a0))
 go_ret
 exact ⟨fe, bh HB⟩

def Gt.f (a0_0 : Int) (a0_1 : Int) (a0 : Int) (m0 : Int) : Option (Int × Int) := some (Fl.opE Gm.mul (a0_0, a0_1) (a0, m0))
theorem Gt.calls (a0_0 : Int) (a0_1 : Int) (a0 : Int) (m0 : Int) (r1 : Int) (r2 : Int) (w : World) (h : Gt.f a0_0 a0_1 a0 m0 = some (r1, r2)) :
  Calls Tryz.prog 73 #[.agg #[.int .i64 a0_0, .int .i64 a0_1], .agg #[.int .i64 a0, .int .i64 m0]] w fun e w' => e = .returned (.agg #[.int .i64 r1, .int .i64 r2]) ∧ Below w.heap.size w w' := by
 have e := Option.some.inj h
 have c := Fl.mul_c a0_0 a0_1 a0 m0 w
 rw [e] at c
 exact c

def Gs.f (a0_0 : Int) (a0_1 : Int) (a1 : Int) : Option (Int × Int) := if 0 ≤ a1 ∧ a1 < 18446744073709551616 then some (Fl.powE (a0_0, a0_1) a1.toNat) else none
theorem Gs.calls (a0_0 : Int) (a0_1 : Int) (a1 : Int) (r1 : Int) (r2 : Int) (w : World) (h : Gs.f a0_0 a0_1 a1 = some (r1, r2)) :
  Calls Tryz.prog 111 #[.agg #[.int .i64 a0_0, .int .i64 a0_1], .int .u64 a1] w fun e w' => e = .returned (.agg #[.int .i64 r1, .int .i64 r2]) ∧ Below w.heap.size w w' := by
 unfold Gs.f at h
 by_cases hb : 0 ≤ a1 ∧ a1 < 18446744073709551616
 ·
  rw [if_pos hb] at h
  have e := Option.some.inj h
  obtain ⟨n, rfl⟩ := Int.eq_ofNat_of_zero_le hb.1
  rw [Int.toNat_natCast] at e
  have c := Fl.powE_c a0_0 a0_1 n (by omega) w
  rw [e] at c
  exact c
 rw [if_neg hb] at h; cases h

def H4.f (a0_0 : Int) (a0_1 : Int) : Option (Int × Int × Int) := (G8.f a0_0 a0_1).bind fun m0 => (if m0 = true then (if (a0_0 == 0 && (a0_1 == 0)) = true then (some (0, 0, 1)) else ((Gs.f a0_0 a0_1 100140047).bind fun a0 => (some (a0.1, a0.2, 0)))) else (some (0, 0, 1)))
set_option maxHeartbeats 8000000 in
set_option maxRecDepth 100000 in
theorem H4.calls (a0_0 : Int) (a0_1 : Int) (r1 : Int) (r2 : Int) (r3 : Int) (w : World) (h : H4.f a0_0 a0_1 = some (r1, r2, r3)) :
  Calls Tryz.prog 98 #[.agg #[.int .i64 a0_0, .int .i64 a0_1]] w fun e w' => e = .returned (.tuple #[.agg #[.int .i64 r1, .int .i64 r2], .int .i64 r3]) ∧ Below w.heap.size w w' := by
 have Y0 := Tryz.underlying28
 have HB := am_ (Below.refl w.heap.size w)
 have H : ((G8.f a0_0 a0_1).bind fun M0 => (if M0 = true then (if (a0_0 == 0 && (a0_1 == 0)) = true then (some (0, 0, 1)) else ((Gs.f a0_0 a0_1 100140047).bind fun z0 => (some (z0.1, z0.2, 0)))) else (some (0, 0, 1)))) = some (r1, r2, r3) := h
 clear h
 replace H := Option.bind_eq_some_iff.mp H
 obtain ⟨M0, W0, H⟩ := H
 try dsimp only at H
 have A2 := am_ W0
 clear W0
 by_cases c3 : M0 = true
 ·
  subst c3
  rw [if_pos rfl] at H
  by_cases c4 : (a0_0 == 0 && (a0_1 == 0)) = true
  ·
   rw [if_pos c4] at H
   have V0 : (a0_0 == 0 && (a0_1 == 0)) = true := c4
   (try (have U0 : decide (a0_0 = 0 && (a0_1 == 0)) = true := by simpa using c4))
   (try (have Q0 : (a0_0 == 0 && (a0_1 == 0)) = true := by simpa using c4))
   clear c4
   simp only [Option.some.injEq, Prod.mk.injEq] at H
   obtain ⟨rfl, rfl, rfl⟩ := H
   go_enter Tryz.func98, Tryz.ntmps98
   go_wp2_with (first | ((with_reducible refine gd_ 1 ?_); refine be_ 1 #[.int .i64 a0_0, .int .i64 a0_1] 28 ?_; intro E0 hg w5 hbox hb; have a0 := am_ hbox; have A0 := tG HB hg; have I0 := tG HB hg; replace HB := tHb HB hb; clear hb hbox hg) | ((with_reducible refine gd_ 2 ?_); refine be_ 2 #[.int .i64 0, .int .i64 0] 28 ?_; intro u0 hg w6 hbox hb; have m0 := am_ hbox; have L0 := tG HB hg; have C0 := tG HB hg; replace HB := tHb HB hb; obtain ⟨n0, o0⟩ := tN a0 hg; replace a0 := tBb a0 hb; clear hb hbox hg; obtain ⟨_, _⟩ := n2 n0; obtain ⟨C1, X0, L1, i1⟩ := bx2 a0) | ((with_reducible refine gate_callee (f := 69) rfl ?_); refine gl_ (some 5) Tryz.func69 #[.agg #[.int .i64 a0_0, .int .i64 a0_1]] ?_; (with_reducible refine (G8.calls a0_0 a0_1 true _ A2.out).mono ?_); rintro e w9 ⟨rfl, hb⟩; refine ⟨_, rfl, ?_⟩; replace a0 := tBb a0 hb; replace m0 := tBb m0 hb; replace HB := tHb HB hb; (try clear hb); obtain ⟨_, _, _, _⟩ := bx2 a0; obtain ⟨_, _, _, _⟩ := bx2 m0))
   refine bodyPost_ret (results_ct rfl _ _ u0 28 #[.int .i64 0, .int .i64 0] (0, 0) _ rfl (gP m0 rfl) Tryz.underlying28 rfl (by kernel_rfl)) rfl ?_
   exact ⟨fe, bh HB⟩
  rw [if_neg c4] at H
  have V0 : (a0_0 == 0 && (a0_1 == 0)) = false := by simpa using c4
  (try (have U0 : decide (a0_0 = 0 && (a0_1 == 0)) = false := by simpa using c4))
  (try (have Q0 : (a0_0 == 0 && (a0_1 == 0)) = false := by simpa using c4))
  (try (have D1 : ¬ (a0_0 = 0 && (a0_1 == 0)) := by simpa using c4))
  clear c4
  replace H := Option.bind_eq_some_iff.mp H
  obtain ⟨⟨P0, N0⟩, O0, H⟩ := H
  try dsimp only at H
  have Z0 := am_ O0
  clear O0
  simp only [Option.some.injEq, Prod.mk.injEq] at H
  obtain ⟨rfl, rfl, rfl⟩ := H
  go_enter Tryz.func98, Tryz.ntmps98
  go_wp2_with (first | ((with_reducible refine gd_ 1 ?_); refine be_ 1 #[.int .i64 a0_0, .int .i64 a0_1] 28 ?_; intro E0 hg O1 hbox hb; have a0 := am_ hbox; have A0 := tG HB hg; have I0 := tG HB hg; replace HB := tHb HB hb; clear hb hbox hg) | ((with_reducible refine gd_ 2 ?_); refine be_ 2 #[.int .i64 0, .int .i64 0] 28 ?_; intro u0 hg N1 hbox hb; have m0 := am_ hbox; have L0 := tG HB hg; have C0 := tG HB hg; replace HB := tHb HB hb; obtain ⟨n0, o0⟩ := tN a0 hg; replace a0 := tBb a0 hb; clear hb hbox hg; obtain ⟨_, _⟩ := n2 n0; obtain ⟨_, _, _, _⟩ := bx2 a0) | ((with_reducible refine gate_callee (f := 69) rfl ?_); refine gl_ (some 5) Tryz.func69 #[.agg #[.int .i64 a0_0, .int .i64 a0_1]] ?_; (with_reducible refine (G8.calls a0_0 a0_1 true _ A2.out).mono ?_); rintro e V1 ⟨rfl, hb⟩; refine ⟨_, rfl, ?_⟩; replace a0 := tBb a0 hb; replace m0 := tBb m0 hb; replace HB := tHb HB hb; (try clear hb); obtain ⟨_, _, _, _⟩ := bx2 a0) | ((with_reducible refine gate_callee (f := 111) rfl ?_); refine gl_ (some 14) Tryz.func111 #[.agg #[.int .i64 a0_0, .int .i64 a0_1], .int .u64 100140047] ?_; (with_reducible refine (Gs.calls a0_0 a0_1 100140047 P0 N0 _ Z0.out).mono ?_); rintro e U1 ⟨rfl, hb⟩; refine ⟨_, rfl, ?_⟩; replace a0 := tBb a0 hb; replace m0 := tBb m0 hb; replace HB := tHb HB hb; (try clear hb); obtain ⟨_, _, _, _⟩ := bx2 m0))
  refine bodyPost_ret (results_ct rfl _ _ u0 28 #[.int .i64 P0, .int .i64 N0] (0, 0) _ rfl (gP m0 rfl) Tryz.underlying28 rfl (by kernel_rfl)) rfl ?_
  exact ⟨fe, bh HB⟩
 replace c3 := Bool.eq_false_iff.mpr c3
 subst c3
 rw [if_neg (show ¬ (false = true) by decide)] at H
 simp only [Option.some.injEq, Prod.mk.injEq] at H
 obtain ⟨rfl, rfl, rfl⟩ := H
 go_enter Tryz.func98, Tryz.ntmps98
 go_wp2_with (first | ((with_reducible refine gd_ 1 ?_); refine be_ 1 #[.int .i64 a0_0, .int .i64 a0_1] 28 ?_; intro E0 hg X1 hbox hb; have a0 := am_ hbox; have A0 := tG HB hg; have I0 := tG HB hg; replace HB := tHb HB hb; clear hb hbox hg) | ((with_reducible refine gd_ 2 ?_); refine be_ 2 #[.int .i64 0, .int .i64 0] 28 ?_; intro u0 hg P1 hbox hb; have m0 := am_ hbox; have L0 := tG HB hg; have C0 := tG HB hg; replace HB := tHb HB hb; obtain ⟨n0, o0⟩ := tN a0 hg; replace a0 := tBb a0 hb; clear hb hbox hg; obtain ⟨_, _⟩ := n2 n0; obtain ⟨_, _, _, _⟩ := bx2 a0) | ((with_reducible refine gate_callee (f := 69) rfl ?_); refine gl_ (some 5) Tryz.func69 #[.agg #[.int .i64 a0_0, .int .i64 a0_1]] ?_; (with_reducible refine (G8.calls a0_0 a0_1 false _ A2.out).mono ?_); rintro e Q1 ⟨rfl, hb⟩; refine ⟨_, rfl, ?_⟩; replace a0 := tBb a0 hb; replace m0 := tBb m0 hb; replace HB := tHb HB hb; (try clear hb); obtain ⟨_, _, _, _⟩ := bx2 m0))
 refine bodyPost_ret (results_ct rfl _ _ u0 28 #[.int .i64 0, .int .i64 0] (0, 0) _ rfl (gP m0 rfl) Tryz.underlying28 rfl (by kernel_rfl)) rfl ?_
 exact ⟨fe, bh HB⟩

def H6.f (a0_0 : Int) (a0_1 : Int) (a0 : Int) (m0 : Int) : Option (Int × Int) := some (Fl.opE Gm.sub (a0_0, a0_1) (a0, m0))
theorem H6.calls (a0_0 : Int) (a0_1 : Int) (a0 : Int) (m0 : Int) (r1 : Int) (r2 : Int) (w : World) (h : H6.f a0_0 a0_1 a0 m0 = some (r1, r2)) :
  Calls Tryz.prog 99 #[.agg #[.int .i64 a0_0, .int .i64 a0_1], .agg #[.int .i64 a0, .int .i64 m0]] w fun e w' => e = .returned (.agg #[.int .i64 r1, .int .i64 r2]) ∧ Below w.heap.size w w' := by
 have e := Option.some.inj h
 have c := Fl.sub_c a0_0 a0_1 a0 m0 w
 rw [e] at c
 exact c

def G6.l0 : Nat → List (S76) → Int → Int → Int → Int → Int → Int → Int → Option (Int × Int)
 | 0, _, _, _, _, _, _, _, _ => none
 | k + 1, x0, x1, I0, z0, m0, n0, a0, o0 => if z0 < I0 then (if z0 = x1 then (G6.l0 k x0 x1 I0 (wrap64 (z0 + 1)) m0 n0 a0 o0) else (if 0 ≤ z0 then (if z0 < (x0.length : Int) then ((H6.f ((rd_T76 x0 z0).f0) 0 a0 o0).bind fun u0 => ((H4.f u0.1 u0.2).bind fun A0 => ((Gt.f ((rd_T76 x0 z0).f0) 0 A0.1 A0.2.1).bind fun C0 => ((Gt.f m0 n0 C0.1 C0.2).bind fun E0 => (G6.l0 k x0 x1 I0 (wrap64 (z0 + 1)) E0.1 E0.2 a0 o0))))) else (none)) else (none))) else (some (m0, n0))
def G6.f (k : Nat) (l0 : List (S76)) (a1 : Int) : Option (Int × Int) := if 0 ≤ a1 then (if a1 < (l0.length : Int) then (G6.l0 k l0 a1 (l0.length : Int) 0 1 0 ((rd_T76 l0 a1).f0) 0) else (none)) else (none)
set_option maxHeartbeats 8000000 in
set_option maxRecDepth 100000 in
theorem G6.calls (k : Nat) (A0 : Option Addr) (c0 : Nat) (l0 : List (S76)) (a1 : Int) (r1 : Int) (r2 : Int) (w : World) (N5 : Kd.C k76 w A0 l0.length l0) (m5 : l0.length ≤ c0) (h : G6.f k l0 a1 = some (r1, r2)) :
  Calls Tryz.prog 74 #[.slice A0 l0.length c0, .int .i64 a1] w fun e w' => e = .returned (.agg #[.int .i64 r1, .int .i64 r2]) ∧ Below w.heap.size w w' := by
 have Q5 := Tryz.underlying28
 have K5 := am_ N5
 have b6 := am_ m5
 clear N5 m5
 have HB := am_ (Below.refl w.heap.size w)
 have H : (if 0 ≤ a1 then (if a1 < (l0.length : Int) then (G6.l0 k l0 a1 (l0.length : Int) 0 1 0 ((rd_T76 l0 a1).f0) 0) else (none)) else (none)) = some (r1, r2) := h
 clear h
 by_cases c3 : 0 ≤ a1
 ·
  rw [if_pos c3] at H
  have b5 : decide (0 ≤ a1) = true := decide_eq_true c3
  clear c3
  revert H
  refine gi (fun c5 H => ?_)
  have H' := am_ H
  clear H
  go_enter Tryz.func74, Tryz.ntmps74
  go_wp2_with (first | ((with_reducible refine gd_ 4 ?_); refine be_ 4 #[.int .i64 0, .int .i64 0] 28 ?_; intro V2 hg w5 hbox hb; have m0 := am_ hbox; have E5 := tG HB hg; have l5 := tG HB hg; replace HB := tHb HB hb; clear hb hbox hg) | ((with_reducible refine gd_ 5 ?_); refine be_ 5 #[.int .i64 0, .int .i64 0] 28 ?_; intro E0 hg w6 hbox hb; have a0 := am_ hbox; have Q2 := tG HB hg; have I5 := tG HB hg; replace HB := tHb HB hb; obtain ⟨C1, U0⟩ := tN m0 hg; replace m0 := tBb m0 hb; clear hb hbox hg; obtain ⟨_, _⟩ := n2 U0; obtain ⟨V4, a5, W4, U4⟩ := bx2 a0; have L2 : 0 ≤ (a1 : Int) := dt; have N2 : a1 < (l0.length : Int) := dt; obtain ⟨C2, Y4, N0, O0, P0⟩ := at_T76 K5.out a1 L2 N2; cases Y4; have I0 : C2.block ≠ E0 := Nat.ne_of_lt (Nat.lt_of_lt_of_le (by have := World.block_lt_of_cell? _ _ N0; first | rwa [add_block] at this | exact this) Q2.out); have L0 : C2.block ≠ E0 := Nat.ne_of_lt (Nat.lt_of_lt_of_le (by have := World.block_lt_of_cell? _ _ N0; first | rwa [add_block] at this | exact this) Q2.out); replace N0 := ce HB N0; replace O0 := ce HB O0; replace P0 := ce HB P0; replace N0 := (cell_far (p := ⟨E0, 0, none⟩) (by first | (rw [add_block]; exact I0) | (show (Addr.add _ _).block ≠ _; rw [add_block]; exact I0) | exact I0) (.int .i64 1)).trans N0; replace O0 := (cell_far (p := ⟨E0, 0, none⟩) (by first | (rw [add_block]; exact I0) | (show (Addr.add _ _).block ≠ _; rw [add_block]; exact I0) | exact I0) (.int .i64 1)).trans O0; replace P0 := (cell_far (p := ⟨E0, 0, none⟩) (by first | (rw [add_block]; exact I0) | (show (Addr.add _ _).block ≠ _; rw [add_block]; exact I0) | exact I0) (.int .i64 1)).trans P0; replace N0 := (cell_far (p := ⟨E0, 1, none⟩) (by first | (rw [add_block]; exact L0) | (show (Addr.add _ _).block ≠ _; rw [add_block]; exact L0) | exact L0) (.int .i64 0)).trans N0; replace O0 := (cell_far (p := ⟨E0, 1, none⟩) (by first | (rw [add_block]; exact L0) | (show (Addr.add _ _).block ≠ _; rw [add_block]; exact L0) | exact L0) (.int .i64 0)).trans O0; replace P0 := (cell_far (p := ⟨E0, 1, none⟩) (by first | (rw [add_block]; exact L0) | (show (Addr.add _ _).block ≠ _; rw [add_block]; exact L0) | exact L0) (.int .i64 0)).trans P0; clear I0 L0; replace L2 := eq_true L2; replace N2 := eq_true N2) | ((with_reducible refine gd_ 6 ?_); refine be_ 6 #[.int .i64 0, .int .i64 0] 28 ?_; intro J2 hg w9 hbox hb; have n0 := am_ hbox; have A5 := tG HB hg; have L5 := tG HB hg; replace HB := tHb HB hb; obtain ⟨Y1, Z0⟩ := tN m0 hg; replace m0 := tBb m0 hb; have W0 := am_ ((by rw [hg]; exact Nat.ne_of_lt (blk_lt (g := E0) (o := .cells #[.int .i64 1, .int .i64 0] 28 (0, 0)) (gP a0 rfl)) : E0 ≠ J2)); have Q0 := am_ ((by rw [hg]; exact Nat.ne_of_gt (blk_lt (g := E0) (o := .cells #[.int .i64 1, .int .i64 0] 28 (0, 0)) (gP a0 rfl)) : J2 ≠ E0)); replace a0 := am_ (blk_below (g := E0) (o := .cells #[.int .i64 1, .int .i64 0] 28 (0, 0)) (gP a0 rfl) hb); clear hb hbox hg; obtain ⟨_, _⟩ := n2 Z0; obtain ⟨_, _⟩ := n2 Q0; obtain ⟨V3, X3, W3, L3⟩ := bx2 n0))
  go_loopg [20] k (fun kq V5 w' => ∃ (C0 : Int) (u0 : Int) (z0 : Int), V5 = .int .i64 C0 ∧ Asc (G6.l0 kq l0 a1 (l0.length : Int) C0 u0 z0 ((rd_T76 l0 a1).f0) 0 = some (r1, r2)) ∧ Asc (kq ≤ k) ∧ Asc (w'.heap[V2]? = some (.cells #[.int .i64 0, .int .i64 0] 28 (0, 0))) ∧ Asc (w'.heap[E0]? = some (.cells #[.int .i64 u0, .int .i64 z0] 28 (0, 0))) ∧ Asc (w'.heap[J2]? = some (.cells #[.int .i64 ((rd_T76 l0 a1).f0), .int .i64 0] 28 (0, 0))) ∧ Asc (Below w.heap.size w w'))
  case atStart => exact ⟨(0), (1), (0), fr, H', ⟨Nat.le_refl _⟩, ⟨gB m0⟩, ⟨gB a0⟩, ⟨gP n0 rfl⟩, ⟨bh HB⟩⟩
  case round =>
   clear H'
   try clear b5 c5 V3 X3 V4 a5 W3 L3 W4 U4 N0 O0 P0 L2 N2
   obtain ⟨C0, u0, z0, rfl, HA, P4, m0, a0, n0, HB⟩ := hrel
   cases gk with
   | zero => exact absurd HA.out (by simp [G6.l0])
   | succ k1 =>
    have H := HA.out
    clear HA
    simp only [G6.l0] at H
    by_cases J3 : C0 < (l0.length : Int)
    ·
     rw [if_pos J3] at H
     have S3 : decide (C0 < (l0.length : Int)) = true := decide_eq_true J3
     clear J3
     by_cases i3 : C0 = a1
     ·
      rw [if_pos i3] at H
      have i4 : (C0 == a1) = true := beq_iff_eq.mpr i3
      have N3 : (C0 != a1) = false := bne_eq_false_iff_eq.mpr i3
      clear i3
      have H' := am_ H
      clear H
      go_wp2
      go_roundg k1
      case measure => have := P4.out; omega
      case rel => exact ⟨(wrap64 (C0 + 1)), (u0), (z0), fr, H', kS P4, ⟨gB m0⟩, ⟨gB a0⟩, ⟨gB n0⟩, ⟨bh HB⟩⟩
     rw [if_neg i3] at H
     have i4 : (C0 == a1) = false := beq_eq_false_iff_ne.mpr i3
     have N3 : (C0 != a1) = true := bne_iff_ne.mpr i3
     revert H
     refine gi (fun i5 H => ?_)
     revert H
     refine gi (fun D5 H => ?_)
     replace H := Option.bind_eq_some_iff.mp H
     obtain ⟨⟨l3, Y2⟩, Z3, H⟩ := H
     try dsimp only at H
     have R5 := am_ Z3
     clear Z3
     replace H := Option.bind_eq_some_iff.mp H
     obtain ⟨⟨U1, X1, Z4⟩, Y3, H⟩ := H
     try dsimp only at H
     have S5 := am_ Y3
     clear Y3
     replace H := Option.bind_eq_some_iff.mp H
     obtain ⟨⟨b3, Z2⟩, U3, H⟩ := H
     try dsimp only at H
     have P5 := am_ U3
     clear U3
     replace H := Option.bind_eq_some_iff.mp H
     obtain ⟨⟨Q3, k4⟩, j4, H⟩ := H
     try dsimp only at H
     have Y5 := am_ j4
     clear j4
     have H' := am_ H
     clear H
     have a3 : 0 ≤ (C0 : Int) := dt
     have k3 : C0 < (l0.length : Int) := dt
     obtain ⟨a4, X4, N1, O1, L1⟩ := at_T76 K5.out C0 a3 k3
     obtain rfl : C2 = a4 := (by injection X4)
     replace N1 := ce HB N1
     replace O1 := ce HB O1
     replace L1 := ce HB L1
     replace a3 := eq_true a3
     replace k3 := eq_true k3
     try go_wp2_with (first | ((with_reducible refine gd_ 8 ?_); refine be_ 8 #[.int .i64 0, .int .i64 0] 28 ?_; intro D2 hg j6 hbox hb; have o0 := am_ hbox; have p5 := tG HB hg; have j5 := tG HB hg; replace HB := tHb HB hb; obtain ⟨D3, i2⟩ := tN m0 hg; replace m0 := tBb m0 hb; obtain ⟨i1, X0⟩ := tN a0 hg; replace a0 := tBb a0 hb; obtain ⟨m3, Z1⟩ := tN n0 hg; replace n0 := tBb n0 hb; clear hb hbox hg; obtain ⟨_, _⟩ := n2 i2; obtain ⟨_, _⟩ := n2 X0; obtain ⟨_, _⟩ := n2 Z1; obtain ⟨_, _, _, _⟩ := bx2 o0; obtain ⟨_, _⟩ := n2 Z0; obtain ⟨_, _⟩ := n2 Q0; obtain ⟨_, _, _, _⟩ := bx2 n0) | ((with_reducible refine gate_callee (f := 99) rfl ?_); refine gl_ (some 35) Tryz.func99 #[.agg #[.int .i64 ((rd_T76 l0 C0).f0), .int .i64 0], .agg #[.int .i64 ((rd_T76 l0 a1).f0), .int .i64 0]] ?_; (with_reducible refine (H6.calls ((rd_T76 l0 C0).f0) 0 ((rd_T76 l0 a1).f0) 0 l3 Y2 _ R5.out).mono ?_); rintro e k6 ⟨rfl, hb⟩; refine ⟨_, rfl, ?_⟩; replace m0 := tBb m0 hb; replace a0 := tBb a0 hb; replace n0 := tBb n0 hb; replace o0 := am_ (blk_below (g := D2) (o := .cells #[.int .i64 ((rd_T76 l0 C0).f0), .int .i64 0] 28 (0, 0)) (gP o0 rfl) hb); replace HB := tHb HB hb; (try clear hb)) | ((with_reducible refine gate_callee (f := 98) rfl ?_); refine gl_ (some 36) Tryz.func98 #[.agg #[.int .i64 l3, .int .i64 Y2]] ?_; (with_reducible refine (H4.calls l3 Y2 U1 X1 Z4 _ S5.out).mono ?_); rintro e a6 ⟨rfl, hb⟩; refine ⟨_, rfl, ?_⟩; replace m0 := tBb m0 hb; replace a0 := tBb a0 hb; replace n0 := tBb n0 hb; replace o0 := tBb o0 hb; replace HB := tHb HB hb; (try clear hb)) | ((with_reducible refine gd_ 9 ?_); refine be_ 9 #[.int .i64 0, .int .i64 0] 28 ?_; intro D1 hg W5 hbox hb; have M0 := am_ hbox; have M5 := tG HB hg; have J5 := tG HB hg; replace HB := tHb HB hb; obtain ⟨u3, V1⟩ := tN m0 hg; replace m0 := tBb m0 hb; obtain ⟨Y0, V0⟩ := tN a0 hg; replace a0 := tBb a0 hb; obtain ⟨I3, P1⟩ := tN n0 hg; replace n0 := tBb n0 hb; obtain ⟨C3, Q1⟩ := tN o0 hg; replace o0 := tBb o0 hb; clear hb hbox hg; obtain ⟨_, _⟩ := n2 V1; obtain ⟨_, _⟩ := n2 V0; obtain ⟨_, _⟩ := n2 P1; obtain ⟨_, _⟩ := n2 Q1; obtain ⟨_, _, _, _⟩ := bx2 M0) | ((with_reducible refine gate_store (t := 28) (p := 9) rfl ?_); refine se_ 28 9 ((W5.setCell ⟨D1, 0, none⟩ (.int .i64 U1)).setCell ⟨D1, 1, none⟩ (.int .i64 X1)) ?_; intro U5 hw; replace m0 := sB m0 hw; replace a0 := sB a0 hw; replace n0 := sB n0 hw; replace o0 := sB o0 hw; replace M0 := sP #[.int .i64 U1, .int .i64 X1] M0 hw; replace HB := sH HB hw; clear hw))
     replace m0 := am_ (blk_drew m0.out)
     replace a0 := am_ (blk_drew a0.out)
     replace n0 := am_ (blk_drew n0.out)
     replace o0 := am_ (blk_drew o0.out)
     replace M0 := am_ (blk_drew M0.out)
     replace HB := am_ (below_drew1 HB.out)
     refine start_ (n := 6) (S := fun w' => w'.cell? ⟨E0, 0, none⟩ = some (.int .i64 u0) ∧ w'.cell? ⟨E0, 1, none⟩ = some (.int .i64 z0) ∧ w'.cell? ⟨D2, 0, none⟩ = some (.int .i64 ((rd_T76 l0 C0).f0)) ∧ w'.cell? ⟨D2, 1, none⟩ = some (.int .i64 0) ∧ w'.cell? ⟨D1, 0, none⟩ = some (.int .i64 U1) ∧ w'.cell? ⟨D1, 1, none⟩ = some (.int .i64 X1)) (ds := [5]) #[false, false, false, false, false, false] (by kernel_rfl) rfl rfl ⟨(blk_cell a0.out 0).trans rfl, (blk_cell a0.out 1).trans rfl, (blk_cell o0.out 0).trans rfl, (blk_cell o0.out 1).trans rfl, (blk_cell M0.out 0).trans rfl, (blk_cell M0.out 1).trans rfl⟩ (fun hHeld => ?_)
     generalize U5.drew = i6 at m0 a0 n0 o0 M0 HB hHeld ⊢
     refine take_ (i := 0) (N := some 39) (v := ?_) (a' := ?_) #[true, false, false, false, false, false] rfl rfl (by kernel_rfl) (fun _ _ _ h => h) (Or.inl ⟨by rfl, ?_⟩) hHeld ?_ ?_
     rotate_left
     ·
      rintro w' ⟨s0, s1, s2, s3, s4, s5⟩
      go_simp
      with_reducible rfl
     rotate_left
     ·
      simp only [Act.put, List.setIfInBounds_toArray, List.set_cons_zero, List.set_cons_succ, i64_w, i32_w]
      rfl
     refine take_ (i := 1) (N := some 40) (v := ?_) (a' := ?_) #[true, true, false, false, false, false] rfl rfl (by kernel_rfl) (fun _ _ _ h => h) (Or.inl ⟨by rfl, ?_⟩) hHeld ?_ ?_
     rotate_left
     ·
      rintro w' ⟨s0, s1, s2, s3, s4, s5⟩
      go_simp
      with_reducible rfl
     rotate_left
     ·
      simp only [Act.put, List.setIfInBounds_toArray, List.set_cons_zero, List.set_cons_succ, i64_w, i32_w]
      rfl
     refine take_ (i := 2) (N := some 41) (v := ?_) (a' := ?_) #[true, true, true, false, false, false] rfl rfl (by kernel_rfl) (fun _ _ _ h => h) (Or.inl ⟨by rfl, ?_⟩) hHeld ?_ ?_
     rotate_left
     ·
      rintro w' ⟨s0, s1, s2, s3, s4, s5⟩
      go_simp
      with_reducible rfl
     rotate_left
     ·
      simp only [Act.put, List.setIfInBounds_toArray, List.set_cons_zero, List.set_cons_succ, i64_w, i32_w]
      rfl
     refine one_ (i := 3) (N := some 42) #[true, true, true, true, false, false] rfl rfl (by kernel_rfl) (by decide) (fun K hK => ?_)
     refine goes_ Tryz.func73 (by kernel_rfl) rfl #[.agg #[.int .i64 ((rd_T76 l0 C0).f0), .int .i64 0], .agg #[.int .i64 U1, .int .i64 X1]] (by rfl) rfl rfl (by (try simp only [List.map_toArray, List.map_cons, List.map_nil]); first | done | rfl | (simp only [List.length_drop, List.length_take]; rfl)) ?_
     with_reducible refine (Gt.calls ((rd_T76 l0 C0).f0) 0 U1 X1 b3 Z2 _ P5.out).mono ?_
     rintro e c6 ⟨rfl, hb⟩
     refine ⟨_, rfl, ?_⟩
     replace m0 := tBb m0 hb
     replace a0 := tBb a0 hb
     replace n0 := tBb n0 hb
     replace o0 := tBb o0 hb
     replace M0 := tBb M0 hb
     replace HB := tHb HB hb
     (try clear hb)
     (try clear hb2)
     (try clear hk)
     (try clear hi)
     refine hK.out _ _ ⟨(blk_cell a0.out 0).trans rfl, (blk_cell a0.out 1).trans rfl, (blk_cell o0.out 0).trans rfl, (blk_cell o0.out 1).trans rfl, (blk_cell M0.out 0).trans rfl, (blk_cell M0.out 1).trans rfl⟩ (fun hHeld => ?_)
     clear hK K
     refine norm_ (a' := ?_) ?_ ?_
     rotate_left
     ·
      show Act.put _ (some 42) _ = _
      simp only [Act.put, List.setIfInBounds_toArray, List.set_cons_zero, List.set_cons_succ, i64_w, i32_w]
      rfl
     refine one_ (i := 4) (N := some 43) #[true, true, true, true, true, false] rfl rfl (by kernel_rfl) (by decide) (fun K hK => ?_)
     refine goes_ Tryz.func73 (by kernel_rfl) rfl #[.agg #[.int .i64 u0, .int .i64 z0], .agg #[.int .i64 b3, .int .i64 Z2]] (by rfl) rfl rfl (by (try simp only [List.map_toArray, List.map_cons, List.map_nil]); first | done | rfl | (simp only [List.length_drop, List.length_take]; rfl)) ?_
     with_reducible refine (Gt.calls u0 z0 b3 Z2 Q3 k4 _ Y5.out).mono ?_
     rintro e O5 ⟨rfl, hb⟩
     refine ⟨_, rfl, ?_⟩
     replace m0 := tBb m0 hb
     replace a0 := tBb a0 hb
     replace n0 := tBb n0 hb
     replace o0 := tBb o0 hb
     replace M0 := tBb M0 hb
     replace HB := tHb HB hb
     (try clear hb)
     (try clear hb2)
     (try clear hk)
     (try clear hi)
     refine hK.out _ _ ⟨(blk_cell a0.out 0).trans rfl, (blk_cell a0.out 1).trans rfl, (blk_cell o0.out 0).trans rfl, (blk_cell o0.out 1).trans rfl, (blk_cell M0.out 0).trans rfl, (blk_cell M0.out 1).trans rfl⟩ (fun hHeld => ?_)
     clear hK K
     refine norm_ (a' := ?_) ?_ ?_
     rotate_left
     ·
      show Act.put _ (some 43) _ = _
      simp only [Act.put, List.setIfInBounds_toArray, List.set_cons_zero, List.set_cons_succ, i64_w, i32_w]
      rfl
     refine last_ (i := 5) (N := none) #[true, true, true, true, true, true] rfl rfl (by kernel_rfl) (by decide) (fun K hK => ?_)
     have Z5 : O5.cell? ⟨E0, 0, none⟩ = some (.int .i64 u0) := (blk_cell a0.out 0).trans rfl
     have C5 := blk_frozen a0.out 0
     have J4 := C1.out
     have C4 := Q0.out
     have O4 := X0.out
     have D4 := V0.out
     have Q4 := U0.out
     have m4 := W0.out
     have I4 := i1.out
     have E4 := Y0.out
     have X5 : O5.cell? ⟨E0, 1, none⟩ = some (.int .i64 z0) := (blk_cell a0.out 1).trans rfl
     have k5 := blk_frozen a0.out 1
     have u4 := C1.out
     have M4 := Q0.out
     have l4 := X0.out
     have R4 := V0.out
     have N4 := U0.out
     have S4 := W0.out
     have K4 := i1.out
     have L4 := Y0.out
     refine skip_ (w1 := ?_) (by rfl) rfl ?_ ?_
     rotate_left
     ·
      go_simp
      rfl
     refine hK.out _ _ ?_
     clear hK K
     refine done_ (by kernel_rfl) ?_
     try go_wp2
     go_roundg k1
     case measure => have := P4.out; omega
     case rel => exact ⟨(wrap64 (C0 + 1)), (Q3), (k4), fr, H', kS P4, ⟨gB m0⟩, ⟨gP a0 rfl⟩, ⟨gB n0⟩, ⟨bh HB⟩⟩
    rw [if_neg J3] at H
    have S3 : decide (C0 < (l0.length : Int)) = false := decide_eq_false J3
    clear J3
    simp only [Option.some.injEq, Prod.mk.injEq] at H
    obtain ⟨rfl, rfl⟩ := H
    obtain ⟨_, _⟩ := n2 U0
    obtain ⟨_, _⟩ := n2 W0
    obtain ⟨_, _, _, _⟩ := bx2 a0
    obtain ⟨_, _⟩ := n2 Y1
    obtain ⟨_, _, _, _⟩ := bx2 m0
    go_wp2
    refine bodyPost_ret (results_cell_row rfl _ _ V2 28 #[.int .i64 u0, .int .i64 z0] (0, 0) _ rfl (gP m0 rfl) Tryz.underlying28 rfl (by kernel_rfl)) rfl ?_
    exact ⟨fe, bh HB⟩
 rw [if_neg c3] at H
 exact absurd H (by simp)

def eS (l : List S76) : List (Int × Gm.E) := l.map fun s => (s.f0, (s.f1.f0, s.f1.f1))
theorem rowS_of {w : World} {A : Option Addr} {l : List S76} (h : Kd.C k76 w A l.length l) : Fl.RowS w A (eS l) := by
 intro i hi
 have hi' : i < l.length := by simpa [eS] using hi
 obtain ⟨ad, e, h0, h1, h2⟩ := at_T76 h (i : Int) (by omega) (by omega)
 have e2 : (eS l).getD i (0, (0, 0)) = ((rd_T76 l (i : Int)).f0, ((rd_T76 l (i : Int)).f1.f0, (rd_T76 l (i : Int)).f1.f1)) := by
  unfold eS rd_T76
  simp [List.getElem?_eq_getElem hi']
 rw [Int.toNat_natCast] at h0 h1 h2
 rw [e2]
 exact ⟨ad, e, h0, h1, h2⟩
theorem eS_length (l : List S76) : (eS l).length = l.length := by simp [eS]
def Fx.f (a0 : Int) : Option (Bool) := if a0 ≥ 4 then (if a0 ≤ 64 then (some ((Int.tmod a0 3) == 1)) else (some false)) else (some false)
set_option maxHeartbeats 8000000 in
set_option maxRecDepth 100000 in
theorem Fx.calls (a0 : Int) (r : Bool) (w : World) (h : Fx.f a0 = some r) :
  Calls Tryz.prog 49 #[.int .i64 a0] w fun e w' => e = .returned (.bool r) ∧ Drawn0 w w' := by
 have H : (if a0 ≥ 4 then (if a0 ≤ 64 then (some ((Int.tmod a0 3) == 1)) else (some false)) else (some false)) = some r := h
 clear h
 by_cases c2 : a0 ≥ 4
 ·
  rw [if_pos c2] at H
  have m0 : decide (4 ≤ a0) = true := decide_eq_true c2
  clear c2
  by_cases c3 : a0 ≤ 64
  ·
   rw [if_pos c3] at H
   have n0 : decide (a0 ≤ 64) = true := decide_eq_true c3
   clear c3
   obtain rfl := Option.some.inj H
   go_enter Tryz.func49, Tryz.ntmps49
   go_wp2
   go_ret
   exact ⟨fr, by repeat (first | exact Drawn0.refl _ | apply Drawn0.step)⟩
  rw [if_neg c3] at H
  have n0 : decide (a0 ≤ 64) = false := decide_eq_false c3
  clear c3
  obtain rfl := Option.some.inj H
  go_enter Tryz.func49, Tryz.ntmps49
  go_wp2
  go_ret
  exact ⟨fr, by repeat (first | exact Drawn0.refl _ | apply Drawn0.step)⟩
 rw [if_neg c2] at H
 have m0 : decide (4 ≤ a0) = false := decide_eq_false c2
 clear c2
 obtain rfl := Option.some.inj H
 go_enter Tryz.func49, Tryz.ntmps49
 go_wp2
 go_ret
 exact ⟨fr, by repeat (first | exact Drawn0.refl _ | apply Drawn0.step)⟩

def Gv.f (a0 : Int) : Option (Int) := (Fx.f a0).bind fun m0 => (if m0 = true then (some (wrap64 (Int.tdiv (wrap64 (a0 - 1)) 3))) else (some 0))
set_option maxHeartbeats 8000000 in
set_option maxRecDepth 100000 in
theorem Gv.calls (a0 : Int) (r : Int) (w : World) (h : Gv.f a0 = some r) :
  Calls Tryz.prog 57 #[.int .i64 a0] w fun e w' => e = .returned (.int .i64 r) ∧ Drawn0 w w' := by
 have H : ((Fx.f a0).bind fun m0 => (if m0 = true then (some (wrap64 (Int.tdiv (wrap64 (a0 - 1)) 3))) else (some 0))) = some r := h
 clear h
 replace H := Option.bind_eq_some_iff.mp H
 obtain ⟨m0, n0, H⟩ := H
 try dsimp only at H
 have A2 := am_ n0
 clear n0
 by_cases c3 : m0 = true
 ·
  subst c3
  rw [if_pos rfl] at H
  obtain rfl := Option.some.inj H
  go_enter Tryz.func57, Tryz.ntmps57
  go_wp2_with (first | ((with_reducible refine gate_callee (f := 49) rfl ?_); refine gl_ (some 4) Tryz.func49 #[.int .i64 a0] ?_; (with_reducible refine (Fx.calls a0 true _ A2.out).mono ?_); rintro e w' ⟨rfl, ⟨nd, rfl⟩⟩; refine ⟨_, rfl, ?_⟩))
  go_ret
  exact ⟨fr, by repeat (first | exact Drawn0.refl _ | apply Drawn0.step)⟩
 replace c3 := Bool.eq_false_iff.mpr c3
 subst c3
 rw [if_neg (show ¬ (false = true) by decide)] at H
 obtain rfl := Option.some.inj H
 go_enter Tryz.func57, Tryz.ntmps57
 go_wp2_with (first | ((with_reducible refine gate_callee (f := 49) rfl ?_); refine gl_ (some 4) Tryz.func49 #[.int .i64 a0] ?_; (with_reducible refine (Fx.calls a0 false _ A2.out).mono ?_); rintro e w' ⟨rfl, ⟨nd, rfl⟩⟩; refine ⟨_, rfl, ?_⟩))
 go_ret
 exact ⟨fr, by repeat (first | exact Drawn0.refl _ | apply Drawn0.step)⟩

def G7.f (a0 : Int) : Option (Int) := (Fx.f a0).bind fun n0 => (if n0 = true then ((Gv.f a0).bind fun m0 => (some (wrap64 (m0 + 1)))) else (some 0))
set_option maxHeartbeats 8000000 in
set_option maxRecDepth 100000 in
theorem G7.calls (a0 : Int) (r : Int) (w : World) (h : G7.f a0 = some r) :
  Calls Tryz.prog 31 #[.int .i64 a0] w fun e w' => e = .returned (.int .i64 r) ∧ Drawn0 w w' := by
 have H : ((Fx.f a0).bind fun n0 => (if n0 = true then ((Gv.f a0).bind fun m0 => (some (wrap64 (m0 + 1)))) else (some 0))) = some r := h
 clear h
 replace H := Option.bind_eq_some_iff.mp H
 obtain ⟨n0, u0, H⟩ := H
 try dsimp only at H
 have A2 := am_ u0
 clear u0
 by_cases c3 : n0 = true
 ·
  subst c3
  rw [if_pos rfl] at H
  replace H := Option.bind_eq_some_iff.mp H
  obtain ⟨m0, o0, H⟩ := H
  try dsimp only at H
  have A4 := am_ o0
  clear o0
  obtain rfl := Option.some.inj H
  go_enter Tryz.func31, Tryz.ntmps31
  go_wp2_with (first | ((with_reducible refine gate_callee (f := 49) rfl ?_); refine gl_ (some 4) Tryz.func49 #[.int .i64 a0] ?_; (with_reducible refine (Fx.calls a0 true _ A2.out).mono ?_); rintro e w' ⟨rfl, ⟨nd, rfl⟩⟩; refine ⟨_, rfl, ?_⟩) | ((with_reducible refine gate_callee (f := 57) rfl ?_); refine gl_ (some 7) Tryz.func57 #[.int .i64 a0] ?_; (with_reducible refine (Gv.calls a0 m0 _ A4.out).mono ?_); rintro e w' ⟨rfl, ⟨nd, rfl⟩⟩; refine ⟨_, rfl, ?_⟩))
  go_ret
  exact ⟨fr, by repeat (first | exact Drawn0.refl _ | apply Drawn0.step)⟩
 replace c3 := Bool.eq_false_iff.mpr c3
 subst c3
 rw [if_neg (show ¬ (false = true) by decide)] at H
 obtain rfl := Option.some.inj H
 go_enter Tryz.func31, Tryz.ntmps31
 go_wp2_with (first | ((with_reducible refine gate_callee (f := 49) rfl ?_); refine gl_ (some 4) Tryz.func49 #[.int .i64 a0] ?_; (with_reducible refine (Fx.calls a0 false _ A2.out).mono ?_); rintro e w' ⟨rfl, ⟨nd, rfl⟩⟩; refine ⟨_, rfl, ?_⟩))
 go_ret
 exact ⟨fr, by repeat (first | exact Drawn0.refl _ | apply Drawn0.step)⟩

end Go.Proofs.YtopijobdblfhoaaGreat.PTuskAsks
