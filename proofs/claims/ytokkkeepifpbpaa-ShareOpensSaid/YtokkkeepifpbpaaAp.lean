import Derived.Test.YtokkkeepifpbpaaOf
import Derived.Maps.OwnSet
/-
  share.apart walked: have all shares their own number, 1 to 64? With a map[int]bool that the call makes. By an AI agent.
-/
namespace Go.Proofs.Ytokkkeepifpbpaa.Fl
open Flt
open Go.RowKit Go.Proofs.YtokkkeepifpbpaaW.PrintWords Go.Proofs.YtokkkeepifpbpaaW.PrintLast Go.Proofs.YtokkkeepifpbpaaW.PrintMore
open Go.Maps (Keyed IsMap)
open Go.ChangeMaps
set_option linter.unusedVariables false
set_option linter.unusedSimpArgs false

/-- An element that reads as a bool's datum is that bool. -/
theorem plainElem_bool_inv {H : Type} {P : Program} {e : TypeId} (he : P.underlying e = some .bool) {v : Value} {z : DataW H × List MemPlace} (h : plainElem P e v = some z) : ∃ x, v = .bool x ∧ z = (.lit (.bool x), []) := by
  unfold plainElem at h
  rw [he] at h
  cases v <;> simp at h
  subst h
  exact ⟨_, rfl, rfl⟩
theorem look_bool {H : Type} {P : Program} {k : TypeId} {w : World} {b n : Nat} {D : DataW H} {t e : TypeId} (h : w.ownsMap P k (plainElem P e) b n D) (K : Keyed P k) (ht : P.underlying t = some (.map k e)) (he : P.underlying e = some .bool) (hz : (zeroValue e).run P w = .ok (.bool false) w)
    {key : Value} {kl : Lit} (hkey : keyOf P k key = some kl) : ∃ x, (Instr.lookup t (.map (some b)) key false).run P w = .ok (.bool x) w ∧ D.atKey kl (.lit (.bool false)) = .lit (.bool x) := by
  obtain ⟨v, ps, hrun, hv⟩ := h.lookup K ht hz (plainElem_bool he false) hkey
  obtain ⟨x, rfl, hc⟩ := plainElem_bool_inv he hv
  exact ⟨x, hrun, (Prod.mk.inj hc).1⟩

/-- is a number among the first k? -/
def seenB (l : List (Int × Gm.E)) (k : Nat) (v : Int) : Bool := decide (∃ j, j < k ∧ (l.getD j (0, (0, 0))).1 = v)
def apFrom (l : List (Int × Gm.E)) : Nat → Nat → Bool
  | 0, _ => true
  | r + 1, i => if (l.getD i (0, (0, 0))).1 < 1 then false else if (l.getD i (0, (0, 0))).1 > 64 then false else if seenB l i (l.getD i (0, (0, 0))).1 = true then false else apFrom l r (i + 1)
def apB (l : List (Int × Gm.E)) : Bool := apFrom l l.length 0
theorem seenB_succ (l : List (Int × Gm.E)) (k : Nat) (v : Int) : seenB l (k + 1) v = (seenB l k v || decide ((l.getD k (0, (0, 0))).1 = v)) := by
  unfold seenB
  rw [Bool.eq_iff_iff]
  simp only [decide_eq_true_eq, Bool.or_eq_true]
  constructor
  · rintro ⟨j, h1, h2⟩
    by_cases e : j = k
    · subst e; exact .inr h2
    · exact .inl ⟨j, by omega, h2⟩
  · rintro (⟨j, h1, h2⟩ | h)
    · exact ⟨j, by omega, h2⟩
    · exact ⟨k, by omega, h⟩

theorem law_int : Keyed Try.prog 3 := Go.Maps.int_keyed Try.underlying3
theorem zero_bool (w : World) : (zeroValue 4).run Try.prog w = .ok (.bool false) w := by kernel_rfl
theorem wf_small {v : Int} (h1 : ¬ v < 1) (h2 : ¬ v > 64) : (Lit.int .i64 v).wf = true := by
  simp [Lit.wf, IntKind.min, IntKind.max, IntKind.signed, IntKind.bits]
  omega

theorem intOf_mk (n : Int) : intOf (Value.int .i64 n) = n := rfl
theorem meas {n kk : Nat} (hlt : kk < n) (hw : wrap64 ((kk : Int) + 1) = ((kk + 1 : Nat) : Int)) : n - (intOf (Value.int .i64 (wrap64 ((kk : Int) + 1)))).toNat < n - (intOf (Value.int .i64 (kk : Int))).toNat := by
  rw [intOf_mk, intOf_mk, hw, Int.toNat_natCast, Int.toNat_natCast]
  exact Nat.sub_lt_sub_left hlt (Nat.lt_succ_self kk)

set_option maxHeartbeats 8000000 in
set_option maxRecDepth 100000 in
theorem apart_c (A : Option Addr) (c : Nat) (l : List (Int × Gm.E)) (w : World) (hr : RowS w A l) (hlen : l.length ≤ 9223372036854775807) :
    Calls Try.prog 59 #[.slice A l.length c] w fun e w' => e = .returned (.bool (apB l)) ∧ Below w.heap.size w w' := by
  have hmm := @run_makeMap Try.prog
  have HR := Lib.hid hr
  have HL := Lib.hid hlen
  clear hr hlen
  go_enter Try.func59, Try.ntmps59
  go_wp2
  go_loopw [9] (fun i wr => ∃ (k : Nat) (D : DataW Unit), k ≤ l.length ∧ i = .int .i64 k ∧ wr.ownsMap Try.prog 3 (plainElem Try.prog 4) w.heap.size k D ∧ Hid (∀ v : Int, (Lit.int .i64 v).wf = true → D.atKey (.int .i64 v) (.lit (.bool false)) = .lit (.bool (seenB l k v))) ∧ Hid (apFrom l (l.length - k) k = apB l) ∧ Below w.heap.size w wr)
    (fun i _ => l.length - (intOf i).toNat)
  case atStart => exact ⟨0, .map [], Nat.zero_le _, rfl, World.ownsMap_made _ _ _ _, Lib.hid (fun v _ => by
    have : seenB l 0 v = false := decide_eq_false (by rintro ⟨j, h, _⟩; omega)
    rw [this]; rfl), Lib.hid rfl, (Below.refl _ _).alloc (Nat.le_refl _) _⟩
  case round =>
    obtain ⟨kk, D, hkk, rfl, hown, HS, HF, BW⟩ := hrel
    by_cases hlt : kk < l.length
    · have hltz := eq_true (show (kk : Int) < (l.length : Int) by omega)
      have p147 := eq_true (show 0 ≤ (kk : Int) by omega)
      obtain ⟨ad147, e147, hx0, hx1, hx2⟩ := HR.out kk hlt
      cases e147
      replace hx0 := (BW.cell (World.block_lt_of_cell? w _ hx0)).trans hx0
      replace hx1 := (BW.cell (World.block_lt_of_cell? w _ hx1)).trans hx1
      replace hx2 := (BW.cell (World.block_lt_of_cell? w _ hx2)).trans hx2
      have FI := HF.out
      rw [show l.length - kk = (l.length - (kk + 1)) + 1 by omega, apFrom] at FI
      have HSn := HS.out
      have hsucc := seenB_succ l kk
      generalize hy : l.getD kk (0, (0, 0)) = y at hx0 hx1 hx2 FI hsucc
      have tn : ((kk : Int)).toNat = kk := Int.toNat_natCast kk
      clear hy HS
      by_cases h1 : y.1 < 1
      · rw [if_pos h1] at FI
        have d1 : decide (y.1 < 1) = true := decide_eq_true h1
        have HF' := Lib.hid FI
        have BW' := Lib.hid BW
        clear FI HSn hsucc h1 HF BW
        go_wp2
        go_ret
        exact ⟨congrArg (fun z => Ending.returned (Value.bool z)) HF'.out, BW'.out.alloc BW'.out.size _⟩
      · rw [if_neg h1] at FI
        have d1 : decide (y.1 < 1) = false := decide_eq_false h1
        by_cases h2 : y.1 > 64
        · rw [if_pos h2] at FI
          have d2 : decide (y.1 > 64) = true := decide_eq_true h2
          have HF' := Lib.hid FI
          have BW' := Lib.hid BW
          clear FI HSn hsucc h1 h2 HF BW
          go_wp2
          go_ret
          exact ⟨congrArg (fun z => Ending.returned (Value.bool z)) HF'.out, BW'.out.alloc BW'.out.size _⟩
        · rw [if_neg h2] at FI
          have d2 : decide (y.1 > 64) = false := decide_eq_false h2
          have hwf := wf_small h1 h2
          have hkey : keyOf Try.prog 3 (.int .i64 y.1) = some (.int .i64 y.1) := Go.Maps.keyOf_int_mk Try.underlying3 hwf
          have hownA := hown.alloc (.cells #[.int .i64 y.1, .int .i64 y.2.1, .int .i64 y.2.2] 43)
          obtain ⟨x, hlook, hat⟩ := look_bool hownA law_int Try.underlying82 Try.underlying4 (zero_bool _) hkey
          have hx : x = seenB l kk y.1 := by
            rw [HSn y.1 hwf] at hat
            simpa using hat.symm
          cases x with
          | true =>
            rw [if_pos hx.symm] at FI
            have HF' := Lib.hid FI
            have BW' := Lib.hid BW
            clear FI HSn hsucc h1 h2 HF BW hat hx hkey hown hownA hwf
            go_wp2
            go_ret
            exact ⟨congrArg (fun z => Ending.returned (Value.bool z)) HF'.out, BW'.out.alloc BW'.out.size _⟩
          | false =>
            rw [if_neg (by rw [← hx]; decide)] at FI
            have hw : wrap64 ((kk : Int) + 1) = ((kk + 1 : Nat) : Int) := by have := HL.out; rw [Go.IntWalk.wrap64_in _ (by omega)]; omega
            have hmapD : IsMap D := hown.isMap
            have HS' := Lib.hid (show ∀ v : Int, (Lit.int .i64 v).wf = true → (D.put (.int .i64 y.1) (.lit (.bool true))).atKey (.int .i64 v) (.lit (.bool false)) = .lit (.bool (seenB l (kk + 1) v)) from fun v hv => by
              rw [hsucc]
              by_cases e : v = y.1
              · subst e
                rw [Go.Maps.atKey_put_same hmapD (show WideAt.IsKeyLit (.int .i64 y.1) from trivial)]
                simp
              · rw [Go.Maps.atKey_put_other (by intro h; injection h with _ h; exact e h), HSn v hv, show decide (y.1 = v) = false from decide_eq_false (fun h => e h.symm), Bool.or_false])
            have HF' := Lib.hid FI
            have HB' := Lib.hid BW
            clear FI HSn hsucc h1 h2 HF BW hat hx hwf hown hmapD
            go_wp2_with (first
              | (at_mapUpdate; refine wpList_mapUpdate_own _ rfl _ _ _ 82 rfl 3 4 law_int Try.underlying82 _ w.heap.size kk _ rfl hownA (by have := HL.out; unfold maxLen; omega) _ _ _ rfl rfl hkey _ [] (plainElem_bool Try.underlying4 true) ?_; intro w1 hown1 hgrow1)
              | go_in)
            go_roundw
            case rel => exact ⟨kk + 1, _, by omega, by first | exact congrArg _ hw | go_num, hown1, HS', HF', (HB'.out.alloc HB'.out.size _).grown hgrow1 (HB'.out.alloc HB'.out.size _).size (fun j hj => by cases hj; exact Nat.le_refl _)⟩
            case measure => exact meas hlt hw
    · have hltz := eq_false (show ¬ (kk : Int) < (l.length : Int) by omega)
      have FI := HF.out
      rw [show l.length - kk = 0 by omega, apFrom] at FI
      have HF' := Lib.hid FI
      have HB' := Lib.hid BW
      clear FI HS HF BW
      go_wp2
      go_ret
      exact ⟨congrArg (fun z => Ending.returned (Value.bool z)) HF'.out, HB'.out⟩
end Go.Proofs.Ytokkkeepifpbpaa.Fl
