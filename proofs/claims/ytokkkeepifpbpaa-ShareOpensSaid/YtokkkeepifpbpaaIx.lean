import Derived.Test.YtokkkeepifpbpaaEv
/-
  slices.IndexFunc and slices.ContainsFunc at []api.Elem and []api.Share, with whatever predicate turns nothing. By an AI agent.
-/
namespace Go.Proofs.Ytokkkeepifpbpaa.Fl
open Flt
open Go.RowKit Go.Proofs.YtokkkeepifpbpaaW.PrintWords Go.Proofs.YtokkkeepifpbpaaW.PrintLast Go.Proofs.YtokkkeepifpbpaaW.PrintMore
set_option linter.unusedVariables false
set_option linter.unusedSimpArgs false

/-- the first place from i on (n places in all) at which p holds, or -1 -/
def ixFrom (p : Nat → Bool) (n : Nat) : Nat → Nat → Int
  | 0, _ => -1
  | k + 1, i => if p i then (i : Int) else ixFrom p n k (i + 1)
def ix (p : Nat → Bool) (n : Nat) : Int := ixFrom p n n 0
theorem ixFrom_nonneg (p : Nat → Bool) (n : Nat) : ∀ k i, 0 ≤ ixFrom p n k i ↔ ∃ j, i ≤ j ∧ j < i + k ∧ p j = true
  | 0, i => by
    constructor
    · intro h; simp [ixFrom] at h
    · rintro ⟨j, h1, h2, _⟩; omega
  | k + 1, i => by
    rw [ixFrom]
    by_cases h : p i = true
    · rw [if_pos h]
      exact ⟨fun _ => ⟨i, Nat.le_refl _, by omega, h⟩, fun _ => by omega⟩
    · rw [if_neg h, ixFrom_nonneg p n k (i + 1)]
      constructor
      · rintro ⟨j, h1, h2, h3⟩; exact ⟨j, by omega, by omega, h3⟩
      · rintro ⟨j, h1, h2, h3⟩
        by_cases e : j = i
        · subst e; exact absurd h3 h
        · exact ⟨j, by omega, by omega, h3⟩
theorem ix_nonneg (p : Nat → Bool) (n : Nat) : 0 ≤ ix p n ↔ ∃ j, j < n ∧ p j = true := by
  unfold ix
  rw [ixFrom_nonneg]
  constructor
  · rintro ⟨j, _, h2, h3⟩; exact ⟨j, by omega, h3⟩
  · rintro ⟨j, h2, h3⟩; exact ⟨j, Nat.zero_le _, by omega, h3⟩

set_option maxHeartbeats 4000000 in
set_option maxRecDepth 100000 in
theorem index_elem (A : Option Addr) (c : Nat) (l : List Gm.E) (g : Nat) (p : Gm.E → Bool) (w : World) (hr : RowE w A l) (hlen : l.length ≤ 9223372036854775807)
    (eg : ∀ args w, (callFunc g args).run Try.prog w = .ok (.enter g args) w)
    (hp : ∀ (W : World) (x : Gm.E), Calls Try.prog g #[.agg #[.int .i64 x.1, .int .i64 x.2]] W fun e w' => e = .returned (.bool (p x)) ∧ Below W.heap.size W w') :
    Calls Try.prog 65 #[.slice A l.length c, .func (.func g) #[] #[]] w fun e w' => e = .returned (.int .i64 (ix (fun i => p (l.getD i (0, 0))) l.length)) ∧ Below w.heap.size w w' := by
  have HR0 := Lib.hid hr
  have HL := Lib.hid hlen
  have HP := Lib.hid hp
  clear hr hlen hp
  go_enter Try.func65, Try.ntmps65
  go_wp2
  go_loopg [5, 8] l.length (fun gg _ s8 wr => ∃ kk : Nat, kk ≤ l.length ∧ l.length - kk ≤ gg ∧ s8 = .int .i64 kk ∧ Aside0 (Below w.heap.size w wr) ∧ Aside0 (ixFrom (fun i => p (l.getD i (0, 0))) l.length (l.length - kk) kk = ix (fun i => p (l.getD i (0, 0))) l.length))
  case atStart => exact ⟨0, Nat.zero_le _, by omega, rfl, ⟨Below.refl _ w⟩, ⟨rfl⟩⟩
  case round =>
    obtain ⟨kk, hkk, hg, rfl, BW, FI⟩ := hrel
    by_cases hlt : kk < l.length
    · have hltz : (kk : Int) < (l.length : Int) := by omega
      have p147 := eq_true (show 0 ≤ (kk : Int) by omega)
      have q147 := eq_true hltz
      obtain ⟨ad147, e147, hx147_0, hx147_1⟩ := HR0.out kk hlt
      cases e147
      replace hx147_0 := (BW.out.cell (World.block_lt_of_cell? w _ hx147_0)).trans hx147_0
      replace hx147_1 := (BW.out.cell (World.block_lt_of_cell? w _ hx147_1)).trans hx147_1
      have hcall := HP.out wr (l.getD kk (0, 0))
      have FI' := FI.out
      rw [show l.length - kk = (l.length - (kk + 1)) + 1 by omega, ixFrom] at FI'
      generalize hy : l.getD kk (0, 0) = y at hx147_0 hx147_1 hcall FI'
      have tn : ((kk : Int)).toNat = kk := Int.toNat_natCast kk
      cases hq : p y with
      | true =>
        rw [hq] at hcall
        rw [if_pos (hq)] at FI'
        have HF := Lib.hid FI'
        clear hy FI FI'
        go_wp2_with fail
        refine hcall.mono ?_
        rintro e w' ⟨rfl, hb'⟩
        go_wp2
        go_ret
        exact ⟨congrArg (fun z => Ending.returned (Value.int .i64 z)) HF.out, BW.out.trans (hb'.mono BW.out.size)⟩
      | false =>
        rw [hq] at hcall
        rw [if_neg (by rw [hq]; decide)] at FI'
        have HF := Lib.hid FI'
        clear hy FI FI'
        have hw : wrap64 ((kk : Int) + 1) = ((kk + 1 : Nat) : Int) := by have := HL.out; rw [Go.IntWalk.wrap64_in _ (by omega)]; omega
        go_wp2_with fail
        refine hcall.mono ?_
        rintro e w' ⟨rfl, hb'⟩
        go_wp2
        go_roundg (l.length - (kk + 1))
        case measure => omega
        case rel => exact ⟨kk + 1, by omega, by omega, by first | exact congrArg _ hw | go_num, ⟨BW.out.trans (hb'.mono BW.out.size)⟩, ⟨HF.out⟩⟩
    · have hltz : ¬ (kk : Int) < (l.length : Int) := by omega
      have e : l.length - kk = 0 := by omega
      have FI' := FI.out
      rw [e, ixFrom] at FI'
      have HF := Lib.hid FI'
      clear FI FI' e
      go_wp2
      go_ret
      exact ⟨congrArg (fun z => Ending.returned (Value.int .i64 z)) HF.out, BW.out⟩

/-- a row of shares in memory -/
def RowS (W : World) (A : Option Addr) (l : List (Int × Gm.E)) : Prop := ∀ i : Nat, i < l.length → ∃ ad, A = some ad ∧ W.cell? (ad.add (i * 3)) = some (.int .i64 (l.getD i (0, (0, 0))).1) ∧ W.cell? ⟨(ad.add (i * 3)).block, (ad.add (i * 3)).off + 1, none⟩ = some (.int .i64 (l.getD i (0, (0, 0))).2.1) ∧ W.cell? ⟨(ad.add (i * 3)).block, (ad.add (i * 3)).off + 2, none⟩ = some (.int .i64 (l.getD i (0, (0, 0))).2.2)
set_option maxHeartbeats 4000000 in
set_option maxRecDepth 100000 in
theorem index_share (A : Option Addr) (c : Nat) (l : List (Int × Gm.E)) (g : Nat) (p : Int × Gm.E → Bool) (w : World) (hr : RowS w A l) (hlen : l.length ≤ 9223372036854775807)
    (eg : ∀ args w, (callFunc g args).run Try.prog w = .ok (.enter g args) w)
    (hp : ∀ (W : World) (x : Int × Gm.E), Calls Try.prog g #[.agg #[.int .i64 x.1, .int .i64 x.2.1, .int .i64 x.2.2]] W fun e w' => e = .returned (.bool (p x)) ∧ Below W.heap.size W w') :
    Calls Try.prog 66 #[.slice A l.length c, .func (.func g) #[] #[]] w fun e w' => e = .returned (.int .i64 (ix (fun i => p (l.getD i (0, (0, 0)))) l.length)) ∧ Below w.heap.size w w' := by
  have HR0 := Lib.hid hr
  have HL := Lib.hid hlen
  have HP := Lib.hid hp
  clear hr hlen hp
  go_enter Try.func66, Try.ntmps66
  go_wp2
  go_loopg [5, 8] l.length (fun gg _ s8 wr => ∃ kk : Nat, kk ≤ l.length ∧ l.length - kk ≤ gg ∧ s8 = .int .i64 kk ∧ Aside0 (Below w.heap.size w wr) ∧ Aside0 (ixFrom (fun i => p (l.getD i (0, (0, 0)))) l.length (l.length - kk) kk = ix (fun i => p (l.getD i (0, (0, 0)))) l.length))
  case atStart => exact ⟨0, Nat.zero_le _, by omega, rfl, ⟨Below.refl _ w⟩, ⟨rfl⟩⟩
  case round =>
    obtain ⟨kk, hkk, hg, rfl, BW, FI⟩ := hrel
    by_cases hlt : kk < l.length
    · have hltz : (kk : Int) < (l.length : Int) := by omega
      have p147 := eq_true (show 0 ≤ (kk : Int) by omega)
      have q147 := eq_true hltz
      obtain ⟨ad147, e147, hx147_0, hx147_1, hx147_2⟩ := HR0.out kk hlt
      cases e147
      replace hx147_0 := (BW.out.cell (World.block_lt_of_cell? w _ hx147_0)).trans hx147_0
      replace hx147_1 := (BW.out.cell (World.block_lt_of_cell? w _ hx147_1)).trans hx147_1
      replace hx147_2 := (BW.out.cell (World.block_lt_of_cell? w _ hx147_2)).trans hx147_2
      have hcall := HP.out wr (l.getD kk (0, (0, 0)))
      have FI' := FI.out
      rw [show l.length - kk = (l.length - (kk + 1)) + 1 by omega, ixFrom] at FI'
      generalize hy : l.getD kk (0, (0, 0)) = y at hx147_0 hx147_1 hx147_2 hcall FI'
      have tn : ((kk : Int)).toNat = kk := Int.toNat_natCast kk
      cases hq : p y with
      | true =>
        rw [hq] at hcall
        rw [if_pos (hq)] at FI'
        have HF := Lib.hid FI'
        clear hy FI FI'
        go_wp2_with fail
        refine hcall.mono ?_
        rintro e w' ⟨rfl, hb'⟩
        go_wp2
        go_ret
        exact ⟨congrArg (fun z => Ending.returned (Value.int .i64 z)) HF.out, BW.out.trans (hb'.mono BW.out.size)⟩
      | false =>
        rw [hq] at hcall
        rw [if_neg (by rw [hq]; decide)] at FI'
        have HF := Lib.hid FI'
        clear hy FI FI'
        have hw : wrap64 ((kk : Int) + 1) = ((kk + 1 : Nat) : Int) := by have := HL.out; rw [Go.IntWalk.wrap64_in _ (by omega)]; omega
        go_wp2_with fail
        refine hcall.mono ?_
        rintro e w' ⟨rfl, hb'⟩
        go_wp2
        go_roundg (l.length - (kk + 1))
        case measure => omega
        case rel => exact ⟨kk + 1, by omega, by omega, by first | exact congrArg _ hw | go_num, ⟨BW.out.trans (hb'.mono BW.out.size)⟩, ⟨HF.out⟩⟩
    · have hltz : ¬ (kk : Int) < (l.length : Int) := by omega
      have e : l.length - kk = 0 := by omega
      have FI' := FI.out
      rw [e, ixFrom] at FI'
      have HF := Lib.hid FI'
      clear FI FI' e
      go_wp2
      go_ret
      exact ⟨congrArg (fun z => Ending.returned (Value.int .i64 z)) HF.out, BW.out⟩

set_option maxHeartbeats 4000000 in
theorem contains_elem (A : Option Addr) (c : Nat) (l : List Gm.E) (g : Nat) (p : Gm.E → Bool) (w : World) (hr : RowE w A l) (hlen : l.length ≤ 9223372036854775807)
    (eg : ∀ args w, (callFunc g args).run Try.prog w = .ok (.enter g args) w)
    (hp : ∀ (W : World) (x : Gm.E), Calls Try.prog g #[.agg #[.int .i64 x.1, .int .i64 x.2]] W fun e w' => e = .returned (.bool (p x)) ∧ Below W.heap.size W w') :
    Calls Try.prog 57 #[.slice A l.length c, .func (.func g) #[] #[]] w fun e w' => e = .returned (.bool (decide (0 ≤ ix (fun i => p (l.getD i (0, 0))) l.length))) ∧ Below w.heap.size w w' := by
  have HC := Lib.hid (index_elem A c l g p w hr hlen eg hp)
  clear hr hlen hp eg
  go_enter Try.func57, Try.ntmps57
  go_wp2_with fail
  refine HC.out.mono ?_
  rintro e w' ⟨rfl, hb⟩
  go_wp2
  go_ret
  exact ⟨rfl, hb⟩

set_option maxHeartbeats 4000000 in
theorem contains_share (A : Option Addr) (c : Nat) (l : List (Int × Gm.E)) (g : Nat) (p : Int × Gm.E → Bool) (w : World) (hr : RowS w A l) (hlen : l.length ≤ 9223372036854775807)
    (eg : ∀ args w, (callFunc g args).run Try.prog w = .ok (.enter g args) w)
    (hp : ∀ (W : World) (x : Int × Gm.E), Calls Try.prog g #[.agg #[.int .i64 x.1, .int .i64 x.2.1, .int .i64 x.2.2]] W fun e w' => e = .returned (.bool (p x)) ∧ Below W.heap.size W w') :
    Calls Try.prog 60 #[.slice A l.length c, .func (.func g) #[] #[]] w fun e w' => e = .returned (.bool (decide (0 ≤ ix (fun i => p (l.getD i (0, (0, 0)))) l.length))) ∧ Below w.heap.size w w' := by
  have HC := Lib.hid (index_share A c l g p w hr hlen eg hp)
  clear hr hlen hp eg
  go_enter Try.func60, Try.ntmps60
  go_wp2_with fail
  refine HC.out.mono ?_
  rintro e w' ⟨rfl, hb⟩
  go_wp2
  go_ret
  exact ⟨rfl, hb⟩

set_option maxHeartbeats 4000000 in
theorem of_odd (a b : Int) (w : World) : Calls Try.prog 56 #[.agg #[.int .i64 a, .int .i64 b]] w fun e w' => e = .returned (.bool (!mayB a b)) ∧ Below w.heap.size w w' := by
  have M1 := Lib.hid (fun w => may_c a b w)
  go_enter Try.func56, Try.ntmps56
  go_wp2_with fail
  refine (M1.out _).mono ?_
  rintro e w1 ⟨rfl, hb⟩
  go_wp2
  go_ret
  exact ⟨rfl, ((Below.refl _ _).alloc (Nat.le_refl _) _).trans (hb.mono (by simp))⟩
set_option maxHeartbeats 4000000 in
theorem open_odd (i a b : Int) (w : World) : Calls Try.prog 58 #[.agg #[.int .i64 i, .int .i64 a, .int .i64 b]] w fun e w' => e = .returned (.bool (!mayB a b)) ∧ Below w.heap.size w w' := by
  have M1 := Lib.hid (fun w => may_c a b w)
  go_enter Try.func58, Try.ntmps58
  go_wp2_with fail
  refine (M1.out _).mono ?_
  rintro e w1 ⟨rfl, hb⟩
  go_wp2
  go_ret
  exact ⟨rfl, ((Below.refl _ _).alloc (Nat.le_refl _) _).trans (hb.mono (by simp))⟩
end Go.Proofs.Ytokkkeepifpbpaa.Fl
