import Derived.Test.YtopijobdblfhoaaGreatVTuskChainsPk
import Derived.Test.YtopijobdblfhoaaGreatVTuskChainsGz
import Derived.Test.YtopijobdblfhoaaGreatVTuskChainsWWords
import Derived.Test.YtopijobdblfhoaaGreatVTuskChainsWLast
import Derived.Test.YtopijobdblfhoaaGreatVTuskChainsWTab
import Derived.Test.YtopijobdblfhoaaGreatVTuskChainsWApart
import Derived.Test.YtopijobdblfhoaaGreatVTuskChainsWKept
import Derived.Test.YtopijobdblfhoaaGreatVTuskChainsWShare
import Derived.Test.YtopijobdblfhoaaGreatVTuskChainsWN
import Derived.Test.YtopijobdblfhoaaGreatVTuskChainsWAt
import Derived.Test.YtopijobdblfhoaaGreatVTuskChainsWEqStruct
import Derived.Test.YtopijobdblfhoaaGreatVTuskChainsWGuard
import Derived.Test.YtopijobdblfhoaaGreatVTuskChainsWNEv
import Derived.Test.YtopijobdblfhoaaGreatVTuskChainsWMore
import Derived.Maps.OwnSet
set_option linter.unusedVariables false
set_option linter.unusedSimpArgs false
/- Trimmed by a program. By an AI agent. -/
section
namespace Go.Proofs.YtopijobdblfhoaaGreat.Fl
open Flt
open Go.RowKit Go.Proofs.YtopijobdblfhoaaGreatW.PrintWords Go.Proofs.YtopijobdblfhoaaGreatW.PrintLast Go.Proofs.YtopijobdblfhoaaGreatW.PrintMore

theorem Qml (w : World) (o : Obj) {n : Nat} (h : w.heap.size = n) : (w.alloc o).heap[n]? = some o := by
 subst h; exact Qa9 w o
end Go.Proofs.YtopijobdblfhoaaGreat.Fl
end
section
namespace Go.Proofs.YtopijobdblfhoaaGreat.Fl
open Flt
open Go.RowKit Go.Proofs.YtopijobdblfhoaaGreatW.PrintWords Go.Proofs.YtopijobdblfhoaaGreatW.PrintLast Go.Proofs.YtopijobdblfhoaaGreatW.PrintMore

def Qeb (p : Nat → Bool) (n : Nat) : Nat → Nat → Int
 | 0, _ => -1
 | k + 1, i => if p i then (i : Int) else Qeb p n k (i + 1)
def ix (p : Nat → Bool) (n : Nat) : Int := Qeb p n n 0
theorem Qdi (p : Nat → Bool) (n : Nat) : ∀ k i, 0 ≤ Qeb p n k i ↔ ∃ j, i ≤ j ∧ j < i + k ∧ p j = true
 | 0, i => by
  constructor
  ·
   intro h; simp [Qeb] at h
  ·
   rintro ⟨j, h1, h2, _⟩; omega
 | k + 1, i => by
  rw [Qeb]
  by_cases h : p i = true
  ·
   rw [if_pos h]; exact ⟨fun _ => ⟨i, Nat.le_refl _, by omega, h⟩, fun _ => by omega⟩
  ·
   rw [if_neg h, Qdi p n k (i + 1)]; constructor
   ·
    rintro ⟨j, h1, h2, h3⟩; exact ⟨j, by omega, by omega, h3⟩
   ·
    rintro ⟨j, h1, h2, h3⟩
    by_cases e : j = i
    ·
     subst e; exact absurd h3 h
    ·
     exact ⟨j, by omega, by omega, h3⟩
theorem Qhg (p : Nat → Bool) (n : Nat) : 0 ≤ ix p n ↔ ∃ j, j < n ∧ p j = true := by
 unfold ix; rw [Qdi]; constructor
 ·
  rintro ⟨j, _, h2, h3⟩; exact ⟨j, by omega, h3⟩
 ·
  rintro ⟨j, h2, h3⟩; exact ⟨j, Nat.zero_le _, by omega, h3⟩

def RowS (W : World) (A : Option Addr) (l : List (Int × Gm.E)) : Prop := ∀ i : Nat, i < l.length → ∃ ad, A = some ad ∧ W.cell? (ad.add (i * 3)) = some (.int .i64 (l.getD i (0, (0, 0))).1) ∧ W.cell? ⟨(ad.add (i * 3)).block, (ad.add (i * 3)).off + 1, none⟩ = some (.int .i64 (l.getD i (0, (0, 0))).2.1) ∧ W.cell? ⟨(ad.add (i * 3)).block, (ad.add (i * 3)).off + 2, none⟩ = some (.int .i64 (l.getD i (0, (0, 0))).2.2)
set_option maxHeartbeats 4000000 in
set_option maxRecDepth 100000 in
theorem Qin (A : Option Addr) (c : Nat) (l : List (Int × Gm.E)) (g : Nat) (p : Int × Gm.E → Bool) (w : World) (hr : RowS w A l) (hlen : l.length ≤ 9223372036854775807)
  (eg : ∀ args w, (callFunc g args).run Tryz.prog w = .ok (.enter g args) w)
  (hp : ∀ (W : World) (x : Int × Gm.E), Calls Tryz.prog g #[.agg #[.int .i64 x.1, .int .i64 x.2.1, .int .i64 x.2.2]] W fun e w' => e = .returned (.bool (p x)) ∧ Below W.heap.size W w') :
  Calls Tryz.prog 94 #[.slice A l.length c, .func (.func g) #[] #[]] w fun e w' => e = .returned (.int .i64 (ix (fun i => p (l.getD i (0, (0, 0)))) l.length)) ∧ Below w.heap.size w w' := by
 have HR0 := Lib.hid hr; have HL := Lib.hid hlen; have HP := Lib.hid hp; clear hr hlen hp; go_enter Tryz.func94, Tryz.ntmps94; go_wp2
 go_loopg [5, 8] l.length (fun gg _ s8 wr => ∃ kk : Nat, kk ≤ l.length ∧ l.length - kk ≤ gg ∧ s8 = .int .i64 kk ∧ Qan (Below w.heap.size w wr) ∧ Qan (Qeb (fun i => p (l.getD i (0, (0, 0)))) l.length (l.length - kk) kk = ix (fun i => p (l.getD i (0, (0, 0)))) l.length))
 case atStart => exact ⟨0, Nat.zero_le _, by omega, rfl, ⟨Below.refl _ w⟩, ⟨rfl⟩⟩
 case round =>
  obtain ⟨kk, hkk, hg, rfl, BW, FI⟩ := hrel
  by_cases hlt : kk < l.length
  ·
   have hltz : (kk : Int) < (l.length : Int) := by omega
   have p147 := eq_true (show 0 ≤ (kk : Int) by omega); have q147 := eq_true hltz; obtain ⟨ad147, e147, hx147_0, hx147_1, hx147_2⟩ := HR0.out kk hlt; cases e147; replace hx147_0 := (BW.out.cell (World.block_lt_of_cell? w _ hx147_0)).trans hx147_0; replace hx147_1 := (BW.out.cell (World.block_lt_of_cell? w _ hx147_1)).trans hx147_1; replace hx147_2 := (BW.out.cell (World.block_lt_of_cell? w _ hx147_2)).trans hx147_2; have hcall := HP.out wr (l.getD kk (0, (0, 0))); have FI' := FI.out; rw [show l.length - kk = (l.length - (kk + 1)) + 1 by omega, Qeb] at FI'; generalize hy : l.getD kk (0, (0, 0)) = y at hx147_0 hx147_1 hx147_2 hcall FI'; have tn : ((kk : Int)).toNat = kk := Int.toNat_natCast kk
   cases hq : p y with
   | true =>
    rw [hq] at hcall; rw [if_pos (hq)] at FI'; have HF := Lib.hid FI'; clear hy FI FI'
    go_wp2_with fail
    refine hcall.mono ?_; rintro e w' ⟨rfl, hb'⟩; go_wp2; go_ret; exact ⟨congrArg (fun z => Ending.returned (Value.int .i64 z)) HF.out, BW.out.trans (hb'.mono BW.out.size)⟩
   | false =>
    rw [hq] at hcall; rw [if_neg (by rw [hq]; decide)] at FI'; have HF := Lib.hid FI'; clear hy FI FI'; have hw : wrap64 ((kk : Int) + 1) = ((kk + 1 : Nat) : Int) := by have := HL.out; rw [Go.IntWalk.wrap64_in _ (by omega)]; omega
    go_wp2_with fail
    refine hcall.mono ?_; rintro e w' ⟨rfl, hb'⟩; go_wp2; go_roundg (l.length - (kk + 1))
    case measure => omega
    case rel => exact ⟨kk + 1, by omega, by omega, by first | exact congrArg _ hw | go_num, ⟨BW.out.trans (hb'.mono BW.out.size)⟩, ⟨HF.out⟩⟩
  ·
   have hltz : ¬ (kk : Int) < (l.length : Int) := by omega
   have e : l.length - kk = 0 := by omega
   have FI' := FI.out; rw [e, Qeb] at FI'; have HF := Lib.hid FI'; clear FI FI' e; go_wp2; go_ret; exact ⟨congrArg (fun z => Ending.returned (Value.int .i64 z)) HF.out, BW.out⟩

set_option maxHeartbeats 4000000 in
theorem Qc4 (A : Option Addr) (c : Nat) (l : List (Int × Gm.E)) (g : Nat) (p : Int × Gm.E → Bool) (w : World) (hr : RowS w A l) (hlen : l.length ≤ 9223372036854775807)
  (eg : ∀ args w, (callFunc g args).run Tryz.prog w = .ok (.enter g args) w)
  (hp : ∀ (W : World) (x : Int × Gm.E), Calls Tryz.prog g #[.agg #[.int .i64 x.1, .int .i64 x.2.1, .int .i64 x.2.2]] W fun e w' => e = .returned (.bool (p x)) ∧ Below W.heap.size W w') :
  Calls Tryz.prog 71 #[.slice A l.length c, .func (.func g) #[] #[]] w fun e w' => e = .returned (.bool (decide (0 ≤ ix (fun i => p (l.getD i (0, (0, 0)))) l.length))) ∧ Below w.heap.size w w' := by
 have HC := Lib.hid (Qin A c l g p w hr hlen eg hp); clear hr hlen hp eg; go_enter Tryz.func71, Tryz.ntmps71
 go_wp2_with fail
 refine HC.out.mono ?_; rintro e w' ⟨rfl, hb⟩; go_wp2; go_ret; exact ⟨rfl, hb⟩

set_option maxHeartbeats 4000000 in
theorem Qkr (i a b : Int) (w : World) : Calls Tryz.prog 68 #[.agg #[.int .i64 i, .int .i64 a, .int .i64 b]] w fun e w' => e = .returned (.bool (!Qfj a b)) ∧ Below w.heap.size w w' := by
 have M1 := Lib.hid (fun w => Qei a b w); go_enter Tryz.func68, Tryz.ntmps68
 go_wp2_with fail
 refine (M1.out _).mono ?_; rintro e w1 ⟨rfl, hb⟩; go_wp2; go_ret; exact ⟨rfl, ((Below.refl _ _).alloc (Nat.le_refl _) _).trans (hb.mono (by simp))⟩
end Go.Proofs.YtopijobdblfhoaaGreat.Fl
end
section
namespace Go.Proofs.YtopijobdblfhoaaGreat.Fl
open Flt
open Go.RowKit Go.Proofs.YtopijobdblfhoaaGreatW.PrintWords Go.Proofs.YtopijobdblfhoaaGreatW.PrintLast Go.Proofs.YtopijobdblfhoaaGreatW.PrintMore

def oddE (l : List Gm.E) : Bool := decide (0 ≤ ix (fun i => (fun x : Gm.E => !Qfj x.1 x.2) (l.getD i (0, 0))) l.length)
theorem Qkj {g : Nat} {fn : Func} (hf : Tryz.prog.funcs[g]? = some fn) (hname : (fn.name == "runtime.NumGoroutine") = false) (hb : fn.body.isSome = true) : ∀ args w, (callFunc g args).run Tryz.prog w = .ok (.enter g args) w := fun args w => Qgp hf hname hb args w

end Go.Proofs.YtopijobdblfhoaaGreat.Fl
end
section
namespace Go.Proofs.YtopijobdblfhoaaGreat.Fl
open Flt
open Go.RowKit Go.Proofs.YtopijobdblfhoaaGreatW.PrintWords Go.Proofs.YtopijobdblfhoaaGreatW.PrintLast Go.Proofs.YtopijobdblfhoaaGreatW.PrintMore
open Go.Maps (Keyed IsMap)
open Go.ChangeMaps

theorem Qbs {H : Type} {P : Program} {e : TypeId} (he : P.underlying e = some .bool) {v : Value} {z : DataW H × List MemPlace} (h : plainElem P e v = some z) : ∃ x, v = .bool x ∧ z = (.lit (.bool x), []) := by
 unfold plainElem at h; rw [he] at h; cases v <;> simp at h
 subst h; exact ⟨_, rfl, rfl⟩
theorem Qfc {H : Type} {P : Program} {k : TypeId} {w : World} {b n : Nat} {D : DataW H} {t e : TypeId} (h : w.ownsMap P k (plainElem P e) b n D) (K : Keyed P k) (ht : P.underlying t = some (.map k e)) (he : P.underlying e = some .bool) (hz : (zeroValue e).run P w = .ok (.bool false) w)
  {key : Value} {kl : Lit} (hkey : keyOf P k key = some kl) : ∃ x, (Instr.lookup t (.map (some b)) key false).run P w = .ok (.bool x) w ∧ D.atKey kl (.lit (.bool false)) = .lit (.bool x) := by
 obtain ⟨v, ps, hrun, hv⟩ := h.lookup K ht hz (plainElem_bool he false) hkey; obtain ⟨x, rfl, hc⟩ := Qbs he hv; exact ⟨x, hrun, (Prod.mk.inj hc).1⟩

def Qfi (l : List (Int × Gm.E)) (k : Nat) (v : Int) : Bool := decide (∃ j, j < k ∧ (l.getD j (0, (0, 0))).1 = v)
def Qdl (l : List (Int × Gm.E)) : Nat → Nat → Bool
 | 0, _ => true
 | r + 1, i => if (l.getD i (0, (0, 0))).1 < 1 then false else if (l.getD i (0, (0, 0))).1 > 64 then false else if Qfi l i (l.getD i (0, (0, 0))).1 = true then false else Qdl l r (i + 1)
def apB (l : List (Int × Gm.E)) : Bool := Qdl l l.length 0
theorem Qk2 (l : List (Int × Gm.E)) (k : Nat) (v : Int) : Qfi l (k + 1) v = (Qfi l k v || decide ((l.getD k (0, (0, 0))).1 = v)) := by
 unfold Qfi; rw [Bool.eq_iff_iff]; simp only [decide_eq_true_eq, Bool.or_eq_true]; constructor
 ·
  rintro ⟨j, h1, h2⟩
  by_cases e : j = k
  ·
   subst e; exact .inr h2
  ·
   exact .inl ⟨j, by omega, h2⟩
 ·
  rintro (⟨j, h1, h2⟩ | h)
  ·
   exact ⟨j, by omega, h2⟩
  ·
   exact ⟨k, by omega, h⟩

theorem Qmt : Keyed Tryz.prog 3 := Go.Maps.int_keyed Tryz.underlying3
theorem Qfe (w : World) : (zeroValue 4).run Tryz.prog w = .ok (.bool false) w := by kernel_rfl
theorem Qoh {v : Int} (h1 : ¬ v < 1) (h2 : ¬ v > 64) : (Lit.int .i64 v).wf = true := by
 simp [Lit.wf, IntKind.min, IntKind.max, IntKind.signed, IntKind.bits]; omega

theorem Qke (n : Int) : intOf (Value.int .i64 n) = n := rfl
theorem meas {n kk : Nat} (hlt : kk < n) (hw : wrap64 ((kk : Int) + 1) = ((kk + 1 : Nat) : Int)) : n - (intOf (Value.int .i64 (wrap64 ((kk : Int) + 1)))).toNat < n - (intOf (Value.int .i64 (kk : Int))).toNat := by
 rw [Qke, Qke, hw, Int.toNat_natCast, Int.toNat_natCast]; exact Nat.sub_lt_sub_left hlt (Nat.lt_succ_self kk)

set_option maxHeartbeats 8000000 in
set_option maxRecDepth 100000 in
theorem Qmd (A : Option Addr) (c : Nat) (l : List (Int × Gm.E)) (w : World) (hr : RowS w A l) (hlen : l.length ≤ 9223372036854775807) :
  Calls Tryz.prog 70 #[.slice A l.length c] w fun e w' => e = .returned (.bool (apB l)) ∧ Below w.heap.size w w' := by
 have hmm := @run_makeMap Tryz.prog; have HR := Lib.hid hr; have HL := Lib.hid hlen; clear hr hlen; go_enter Tryz.func70, Tryz.ntmps70; go_wp2
 go_loopw [9] (fun i wr => ∃ (k : Nat) (D : DataW Unit), k ≤ l.length ∧ i = .int .i64 k ∧ wr.ownsMap Tryz.prog 3 (plainElem Tryz.prog 4) w.heap.size k D ∧ Hid (∀ v : Int, (Lit.int .i64 v).wf = true → D.atKey (.int .i64 v) (.lit (.bool false)) = .lit (.bool (Qfi l k v))) ∧ Hid (Qdl l (l.length - k) k = apB l) ∧ Below w.heap.size w wr)
  (fun i _ => l.length - (intOf i).toNat)
 case atStart => exact ⟨0, .map [], Nat.zero_le _, rfl, World.ownsMap_made _ _ _ _, Lib.hid (fun v _ => by
  have : Qfi l 0 v = false := decide_eq_false (by rintro ⟨j, h, _⟩; omega)
  rw [this]; rfl), Lib.hid rfl, (Below.refl _ _).alloc (Nat.le_refl _) _⟩
 case round =>
  obtain ⟨kk, D, hkk, rfl, hown, HS, HF, BW⟩ := hrel
  by_cases hlt : kk < l.length
  ·
   have hltz := eq_true (show (kk : Int) < (l.length : Int) by omega); have p147 := eq_true (show 0 ≤ (kk : Int) by omega); obtain ⟨ad147, e147, hx0, hx1, hx2⟩ := HR.out kk hlt; cases e147; replace hx0 := (BW.cell (World.block_lt_of_cell? w _ hx0)).trans hx0; replace hx1 := (BW.cell (World.block_lt_of_cell? w _ hx1)).trans hx1; replace hx2 := (BW.cell (World.block_lt_of_cell? w _ hx2)).trans hx2; have FI := HF.out; rw [show l.length - kk = (l.length - (kk + 1)) + 1 by omega, Qdl] at FI; have HSn := HS.out; have hsucc := Qk2 l kk; generalize hy : l.getD kk (0, (0, 0)) = y at hx0 hx1 hx2 FI hsucc; have tn : ((kk : Int)).toNat = kk := Int.toNat_natCast kk; clear hy HS
   by_cases h1 : y.1 < 1
   ·
    rw [if_pos h1] at FI; have d1 : decide (y.1 < 1) = true := decide_eq_true h1; have HF' := Lib.hid FI; have BW' := Lib.hid BW; clear FI HSn hsucc h1 HF BW; go_wp2; go_ret; exact ⟨congrArg (fun z => Ending.returned (Value.bool z)) HF'.out, BW'.out.alloc BW'.out.size _⟩
   ·
    rw [if_neg h1] at FI; have d1 : decide (y.1 < 1) = false := decide_eq_false h1
    by_cases h2 : y.1 > 64
    ·
     rw [if_pos h2] at FI; have d2 : decide (y.1 > 64) = true := decide_eq_true h2; have HF' := Lib.hid FI; have BW' := Lib.hid BW; clear FI HSn hsucc h1 h2 HF BW; go_wp2; go_ret; exact ⟨congrArg (fun z => Ending.returned (Value.bool z)) HF'.out, BW'.out.alloc BW'.out.size _⟩
    ·
     rw [if_neg h2] at FI; have d2 : decide (y.1 > 64) = false := decide_eq_false h2; have hwf := Qoh h1 h2; have hkey : keyOf Tryz.prog 3 (.int .i64 y.1) = some (.int .i64 y.1) := Go.Maps.keyOf_int_mk Tryz.underlying3 hwf; have hownA := hown.alloc (.cells #[.int .i64 y.1, .int .i64 y.2.1, .int .i64 y.2.2] 76); obtain ⟨x, hlook, hat⟩ := Qfc hownA Qmt Tryz.underlying125 Tryz.underlying4 (Qfe _) hkey
     have hx : x = Qfi l kk y.1 := by
      rw [HSn y.1 hwf] at hat
      simpa using hat.symm
     cases x with
     | true =>
      rw [if_pos hx.symm] at FI; have HF' := Lib.hid FI; have BW' := Lib.hid BW; clear FI HSn hsucc h1 h2 HF BW hat hx hkey hown hownA hwf; go_wp2; go_ret; exact ⟨congrArg (fun z => Ending.returned (Value.bool z)) HF'.out, BW'.out.alloc BW'.out.size _⟩
     | false =>
      rw [if_neg (by rw [← hx]; decide)] at FI; have hw : wrap64 ((kk : Int) + 1) = ((kk + 1 : Nat) : Int) := by have := HL.out; rw [Go.IntWalk.wrap64_in _ (by omega)]; omega
      have hmapD : IsMap D := hown.isMap
      have HS' := Lib.hid (show ∀ v : Int, (Lit.int .i64 v).wf = true → (D.put (.int .i64 y.1) (.lit (.bool true))).atKey (.int .i64 v) (.lit (.bool false)) = .lit (.bool (Qfi l (kk + 1) v)) from fun v hv => by
       rw [hsucc]
       by_cases e : v = y.1
       ·
        subst e; rw [Go.Maps.atKey_put_same hmapD (show WideAt.IsKeyLit (.int .i64 y.1) from trivial)]; simp
       ·
        rw [Go.Maps.atKey_put_other (by intro h; injection h with _ h; exact e h), HSn v hv, show decide (y.1 = v) = false from decide_eq_false (fun h => e h.symm), Bool.or_false])
      have HF' := Lib.hid FI; have HB' := Lib.hid BW; clear FI HSn hsucc h1 h2 HF BW hat hx hwf hown hmapD
      go_wp2_with (first
       | (at_mapUpdate; refine wpList_mapUpdate_own _ rfl _ _ _ 125 rfl 3 4 Qmt Tryz.underlying125 _ w.heap.size kk _ rfl hownA (by have := HL.out; unfold maxLen; omega) _ _ _ rfl rfl hkey _ [] (plainElem_bool Tryz.underlying4 true) ?_; intro w1 hown1 hgrow1)
       | go_in)
      go_roundw
      case rel => exact ⟨kk + 1, _, by omega, by first | exact congrArg _ hw | go_num, hown1, HS', HF', (HB'.out.alloc HB'.out.size _).grown hgrow1 (HB'.out.alloc HB'.out.size _).size (fun j hj => by cases hj; exact Nat.le_refl _)⟩
      case measure => exact meas hlt hw
  ·
   have hltz := eq_false (show ¬ (kk : Int) < (l.length : Int) by omega); have FI := HF.out; rw [show l.length - kk = 0 by omega, Qdl] at FI; have HF' := Lib.hid FI; have HB' := Lib.hid BW; clear FI HS HF BW; go_wp2; go_ret; exact ⟨congrArg (fun z => Ending.returned (Value.bool z)) HF'.out, HB'.out⟩
end Go.Proofs.YtopijobdblfhoaaGreat.Fl
end
section
namespace Go.Proofs.YtopijobdblfhoaaGreat.Fl
open Flt
open Go.RowKit Go.Proofs.YtopijobdblfhoaaGreatW.PrintWords Go.Proofs.YtopijobdblfhoaaGreatW.PrintLast Go.Proofs.YtopijobdblfhoaaGreatW.PrintMore

def oddS (l : List (Int × Gm.E)) : Bool := decide (0 ≤ ix (fun i => (fun x : Int × Gm.E => !Qfj x.2.1 x.2.2) (l.getD i (0, (0, 0)))) l.length)
def sumFrom (l : List (Int × Gm.E)) (wt : Nat → Gm.E) : Nat → Nat → Gm.E → Gm.E
 | 0, _, o => o
 | r + 1, i, o => sumFrom l wt r (i + 1) (opE Gm.add o (opE Gm.mul (l.getD i (0, (0, 0))).2 (wt i)))
def openE (l : List (Int × Gm.E)) (wt : Nat → Gm.E) : Gm.E × Int := if l.length = 0 then ((0, 0), 1) else if apB l = false then ((0, 0), 1) else if oddS l = true then ((0, 0), 1) else (sumFrom l wt l.length 0 (0, 0), 0)
theorem Qcc {W W' : World} {A : Option Addr} {l : List (Int × Gm.E)} (h : RowS W A l) (hb : Below W.heap.size W W') : RowS W' A l := by
 intro i hi; obtain ⟨ad, e, h0, h1, h2⟩ := h i hi; exact ⟨ad, e, (hb.cell (World.block_lt_of_cell? W _ h0)).trans h0, (hb.cell (World.block_lt_of_cell? W _ h1)).trans h1, (hb.cell (World.block_lt_of_cell? W _ h2)).trans h2⟩

set_option maxHeartbeats 8000000 in
set_option maxRecDepth 100000 in
theorem Qjp (A : Option Addr) (c : Nat) (l : List (Int × Gm.E)) (w : World) (hr : RowS w A l) (hlen : l.length ≤ 9223372036854775807) (hno : l.length = 0 ∨ apB l = false ∨ oddS l = true) :
  Calls Tryz.prog 50 #[.slice A l.length c] w fun e w' => e = .returned (.tuple #[.agg #[.int .i64 0, .int .i64 0], .int .i64 1]) ∧ Below w.heap.size w w' := by
 have B0 : Below w.heap.size w (w.alloc (.cells #[.int .i64 0, .int .i64 0] 28)) := (Below.refl _ _).alloc (Nat.le_refl _) _; have R0 : (w.alloc (.cells #[.int .i64 0, .int .i64 0] 28)).heap[w.heap.size]? = some (.cells #[.int .i64 0, .int .i64 0] 28 (0, 0)) := Qml _ _ rfl
 by_cases h0 : l.length = 0
 ·
  have d0 : (((l.length : Nat) : Int) == 0) = true := by rw [h0]; rfl
  have HB0 := Lib.hid B0; clear hr hlen hno R0 B0 h0; go_enter Tryz.func50, Tryz.ntmps50; go_wp2; refine bodyPost_ret (v := .tuple #[.agg #[.int .i64 0, .int .i64 0], .int .i64 1]) ?_ rfl ⟨rfl, HB0.out⟩; simp [results, Tryz.results50, go_sem]
 ·
  have d0 : (((l.length : Nat) : Int) == 0) = false := by rw [beq_eq_false_iff_ne]; omega
  have HA := Lib.hid (Qmd A c l _ (Qcc hr B0) hlen); have HR := Lib.hid (Qcc hr B0); have HL := Lib.hid hlen; have HB0 := Lib.hid B0; have HR0 := Lib.hid R0
  cases h1 : apB l with
  | false =>
   rw [h1] at HA; clear hr hlen hno R0 B0 h0 h1; go_enter Tryz.func50, Tryz.ntmps50
   go_wp2_with fail
   refine HA.out.mono ?_; rintro e w1 ⟨rfl, hb⟩; have R1 := Qam HR0.out hb; have r1 : w1.cell? ⟨w.heap.size, 0, none⟩ = some (.int .i64 0) := (Qaa R1 0).trans rfl; have r2 : w1.cell? ⟨w.heap.size, 1, none⟩ = some (.int .i64 0) := (Qaa R1 1).trans rfl; have f1 := Qad R1 0; have f2 := Qad R1 1; have HB1 := Lib.hid (HB0.out.trans (hb.mono HB0.out.size)); clear hb R1; go_wp2; refine bodyPost_ret (v := .tuple #[.agg #[.int .i64 0, .int .i64 0], .int .i64 1]) ?_ rfl ⟨rfl, ?_⟩
   ·
    simp [results, Tryz.results50, go_sem, r1, r2]
   ·
    exact Qax (Qax HB1.out (Nat.le_refl _)) (Nat.le_refl _)
  | true =>
   have h2 : oddS l = true := by
    rcases hno with h | h | h
    ·
     exact absurd h h0
    ·
     rw [h1] at h; cases h
    ·
     exact h
   rw [h1] at HA; have HO := Lib.hid h2; clear hr hlen hno R0 B0 h0 h1 h2; go_enter Tryz.func50, Tryz.ntmps50
   go_wp2_with fail
   refine HA.out.mono ?_; rintro e w1 ⟨rfl, hb⟩; have R1 := Lib.hid (Qam HR0.out hb); have HB1 := Lib.hid (HB0.out.trans (hb.mono HB0.out.size)); have HC := Qc4 A c l 68 (fun x => !Qfj x.2.1 x.2.2) w1 (Qcc HR.out hb) (by have := HL.out; omega) (Qkj Tryz.func68 rfl rfl) (fun W x => Qkr x.1 x.2.1 x.2.2 W); have h2 := HO.out; unfold oddS at h2; rw [h2] at HC; have HC := Lib.hid HC; clear hb h2
   go_wp2_with fail
   refine HC.out.mono ?_; rintro e w2 ⟨rfl, hb⟩; have R2 := Qam R1.out hb; have r1 : w2.cell? ⟨w.heap.size, 0, none⟩ = some (.int .i64 0) := (Qaa R2 0).trans rfl; have r2 : w2.cell? ⟨w.heap.size, 1, none⟩ = some (.int .i64 0) := (Qaa R2 1).trans rfl; have f1 := Qad R2 0; have f2 := Qad R2 1; have HB2 := Lib.hid (HB1.out.trans (hb.mono HB1.out.size)); clear hb R2; go_wp2; refine bodyPost_ret (v := .tuple #[.agg #[.int .i64 0, .int .i64 0], .int .i64 1]) ?_ rfl ⟨rfl, ?_⟩
   ·
    simp [results, Tryz.results50, go_sem, r1, r2]
   ·
    exact Qax (Qax HB2.out (Nat.le_refl _)) (Nat.le_refl _)

set_option maxHeartbeats 16000000 in
set_option maxRecDepth 100000 in
theorem Qo5 (A : Option Addr) (c : Nat) (l : List (Int × Gm.E)) (wt : Nat → Gm.E) (w : World) (hr : RowS w A l) (hlen : l.length ≤ 9223372036854775807) (h0 : l.length ≠ 0) (h1 : apB l = true) (h2 : oddS l = false)
  (hw : ∀ k, k < l.length → ∀ W, Below w.heap.size w W → Calls Tryz.prog 74 #[.slice A l.length c, .int .i64 k] W fun e w' => e = .returned (.agg #[.int .i64 (wt k).1, .int .i64 (wt k).2]) ∧ Below W.heap.size W w') :
  Calls Tryz.prog 50 #[.slice A l.length c] w fun e w' => e = .returned (.tuple #[.agg #[.int .i64 (sumFrom l wt l.length 0 (0, 0)).1, .int .i64 (sumFrom l wt l.length 0 (0, 0)).2], .int .i64 0]) ∧ Below w.heap.size w w' := by
 have B0 : Below w.heap.size w (w.alloc (.cells #[.int .i64 0, .int .i64 0] 28)) := (Below.refl _ _).alloc (Nat.le_refl _) _; have R0 : (w.alloc (.cells #[.int .i64 0, .int .i64 0] 28)).heap[w.heap.size]? = some (.cells #[.int .i64 0, .int .i64 0] 28 (0, 0)) := Qml _ _ rfl; have d0 : (((l.length : Nat) : Int) == 0) = false := by rw [beq_eq_false_iff_ne]; omega
 have HA := Lib.hid (Qmd A c l _ (Qcc hr B0) hlen); have HR := Lib.hid hr; have HL := Lib.hid hlen; have HB0 := Lib.hid B0; have HR0 := Lib.hid R0; have HW := Lib.hid hw; rw [h1] at HA; have HO := Lib.hid h2; clear hr hlen R0 B0 h0 h1 h2 hw; go_enter Tryz.func50, Tryz.ntmps50
 go_wp2_with fail
 refine HA.out.mono ?_; rintro e w1 ⟨rfl, hb⟩; have R1 := Lib.hid (Qam HR0.out hb); have HB1 := Lib.hid (HB0.out.trans (hb.mono HB0.out.size)); have HC := Qc4 A c l 68 (fun x => !Qfj x.2.1 x.2.2) w1 (Qcc HR.out HB1.out) (by have := HL.out; omega) (Qkj Tryz.func68 rfl rfl) (fun W x => Qkr x.1 x.2.1 x.2.2 W); have h2 := HO.out; unfold oddS at h2; rw [h2] at HC; have HC := Lib.hid HC; clear hb h2
 go_wp2_with fail
 refine HC.out.mono ?_; rintro e w2 ⟨rfl, hb⟩; have R2 := Lib.hid (Qam R1.out hb); have HB2 := Lib.hid (HB1.out.trans (hb.mono HB1.out.size)); have hlt2 : w.heap.size < w2.heap.size := Qb7 R2.out; have HS := Lib.hid hlt2; clear hb hlt2 HC HA; go_wp2; generalize hob : w2.heap.size = ob
 go_loopg [6, 23] l.length (fun gg _ s8 wr => ∃ (kk : Nat) (o : Gm.E), kk ≤ l.length ∧ l.length - kk ≤ gg ∧ s8 = .int .i64 kk ∧ Qan (Below w.heap.size w wr) ∧ Qan (wr.heap[w.heap.size]? = some (.cells #[.int .i64 0, .int .i64 0] 28 (0, 0))) ∧ Qan (wr.heap[ob]? = some (.cells #[.int .i64 o.1, .int .i64 o.2] 28 (0, 0))) ∧ Qan (sumFrom l wt (l.length - kk) kk o = sumFrom l wt l.length 0 (0, 0)))
 case atStart =>
  subst hob; exact ⟨0, (0, 0), Nat.zero_le _, by omega, rfl, ⟨HB2.out.alloc HB2.out.size _⟩, ⟨Qah R2.out _⟩, ⟨Qml _ _ rfl⟩, ⟨rfl⟩⟩
 case round =>
  obtain ⟨kk, o, hkk, hg, rfl, HB, BR, BO, FI⟩ := hrel; have GO := Lib.hid (show w.heap.size ≤ ob by rw [← hob]; exact HB2.out.size); have NE := Lib.hid (show w.heap.size ≠ ob by rw [← hob]; have := HS.out; omega); clear hob
  by_cases hlt : kk < l.length
  ·
   have hltz := eq_true (show (kk : Int) < (l.length : Int) by omega); have p147 := eq_true (show 0 ≤ (kk : Int) by omega); obtain ⟨ad147, e147, hx0, hx1, hx2⟩ := HR.out kk hlt; cases e147; have hw1 := hx1; have hw2 := hx2; replace hx0 := (HB.out.cell (World.block_lt_of_cell? w _ hx0)).trans hx0; replace hx1 := (HB.out.cell (World.block_lt_of_cell? w _ hx1)).trans hx1; replace hx2 := (HB.out.cell (World.block_lt_of_cell? w _ hx2)).trans hx2; have FI' := FI.out; rw [show l.length - kk = (l.length - (kk + 1)) + 1 by omega, sumFrom] at FI'; generalize hy : l.getD kk (0, (0, 0)) = y at hx0 hx1 hx2 hw1 hw2 FI'; have tn : ((kk : Int)).toNat = kk := Int.toNat_natCast kk; have HF := Lib.hid FI'; have hwr : wrap64 ((kk : Int) + 1) = ((kk + 1 : Nat) : Int) := by have := HL.out; rw [Go.IntWalk.wrap64_in _ (by omega)]; omega
   clear hy FI FI'
   go_wp2_with fail
   have BR := Qan.mk (Qag BR.out); have BO := Qan.mk (Qag BO.out); have HB := Qan.mk (Qaj HB.out); refine Qcw (n := 12) (S := fun w' => w'.cell? ⟨ob, 0, none⟩ = some (.int .i64 o.1) ∧ w'.cell? ⟨ob, 1, none⟩ = some (.int .i64 o.2) ∧ w'.cell? ⟨(ad147.add (kk * 3)).block, (ad147.add (kk * 3)).off + 1, none⟩ = some (.int .i64 y.2.1) ∧ w'.cell? ⟨(ad147.add (kk * 3)).block, (ad147.add (kk * 3)).off + 2, none⟩ = some (.int .i64 y.2.2)) (ds := [11]) #[false, false, false, false, false, false, false, false, false, false, false, false] (by kernel_rfl) rfl rfl ⟨(Qaa BO.out 0).trans rfl, (Qaa BO.out 1).trans rfl, ((HB.out.cell (World.block_lt_of_cell? w _ hw1)).trans hw1), ((HB.out.cell (World.block_lt_of_cell? w _ hw2)).trans hw2)⟩ (fun hHeld => ?_); generalize wr.drew = w14 at BR BO HB hx0 hx1 hx2 hHeld ⊢; refine pz_ 1 (some 27) 2 (h := ?_); refine pz_ 2 (some 28) 6 (h := ?_); refine pz_ 3 (some 29) 14 (h := ?_); refine pz_ 4 (some 30) 30 (h := ?_); refine pz_ 6 (some 32) 94 (h := ?_); refine pz_ 7 (some 33) 222 (h := ?_); refine tz_ 0 (some 26) 223 hHeld (h := ?_); refine tz_ 5 (some 31) 255 hHeld (h := ?_); refine Qjg (i := 8) (N := some 34) #[true, true, true, true, true, true, true, true, true, false, false, false] rfl rfl (by kernel_rfl) (by decide) (fun K hK => ?_); refine Qm9 Tryz.func74 (by kernel_rfl) rfl #[.slice (some ad147) l.length c, .int .i64 kk] (by rfl) rfl rfl (by (try simp only [List.map_toArray, List.map_cons, List.map_nil]); first | done | rfl) ?_; refine (HW.out kk hlt _ HB.out).mono ?_; rintro e wq8 ⟨rfl, hb⟩; refine ⟨_, rfl, ?_⟩; have n1_ := Qan.mk (Qam BR.out hb); have n2_ := Qan.mk (Qam BO.out hb); have n3_ := Qan.mk (Qa0 HB.out hb); clear BR BO HB; have BR := n1_; have BO := n2_; have HB := n3_; clear n1_ n2_ n3_ hb; refine hK.out _ _ ⟨(Qaa BO.out 0).trans rfl, (Qaa BO.out 1).trans rfl, ((HB.out.cell (World.block_lt_of_cell? w _ hw1)).trans hw1), ((HB.out.cell (World.block_lt_of_cell? w _ hw2)).trans hw2)⟩ (fun hHeld => ?_); clear hK K; refine Qbb (a' := ?_) ?_ ?_; rotate_left
   ·
    show Act.put _ (some 34) _ = _; simp only [Act.put, List.setIfInBounds_toArray, List.set_cons_zero, List.set_cons_succ, Qay, Qa3]; rfl
   refine Qjg (i := 9) (N := some 35) #[true, true, true, true, true, true, true, true, true, true, false, false] rfl rfl (by kernel_rfl) (by decide) (fun K hK => ?_); refine Qm9 Tryz.func73 (by kernel_rfl) rfl #[.agg #[.int .i64 y.2.1, .int .i64 y.2.2], .agg #[.int .i64 (wt kk).1, .int .i64 (wt kk).2]] (by rfl) rfl rfl (by (try simp only [List.map_toArray, List.map_cons, List.map_nil]); first | done | rfl) ?_; refine (mul_c y.2.1 y.2.2 (wt kk).1 (wt kk).2 _).mono ?_; rintro e wq9 ⟨rfl, hb⟩; refine ⟨_, rfl, ?_⟩; have n1_ := Qan.mk (Qam BR.out hb); have n2_ := Qan.mk (Qam BO.out hb); have n3_ := Qan.mk (Qa0 HB.out hb); clear BR BO HB; have BR := n1_; have BO := n2_; have HB := n3_; clear n1_ n2_ n3_ hb; refine hK.out _ _ ⟨(Qaa BO.out 0).trans rfl, (Qaa BO.out 1).trans rfl, ((HB.out.cell (World.block_lt_of_cell? w _ hw1)).trans hw1), ((HB.out.cell (World.block_lt_of_cell? w _ hw2)).trans hw2)⟩ (fun hHeld => ?_); clear hK K; refine Qbb (a' := ?_) ?_ ?_; rotate_left
   ·
    show Act.put _ (some 35) _ = _; simp only [Act.put, List.setIfInBounds_toArray, List.set_cons_zero, List.set_cons_succ, Qay, Qa3]; rfl
   refine Qjg (i := 10) (N := some 36) #[true, true, true, true, true, true, true, true, true, true, true, false] rfl rfl (by kernel_rfl) (by decide) (fun K hK => ?_); refine Qm9 Tryz.func72 (by kernel_rfl) rfl #[.agg #[.int .i64 o.1, .int .i64 o.2], .agg #[.int .i64 (opE Gm.mul y.2 (wt kk)).1, .int .i64 (opE Gm.mul y.2 (wt kk)).2]] (by rfl) rfl rfl (by (try simp only [List.map_toArray, List.map_cons, List.map_nil]); first | done | rfl) ?_; refine (add_c o.1 o.2 (opE Gm.mul y.2 (wt kk)).1 (opE Gm.mul y.2 (wt kk)).2 _).mono ?_; rintro e wq10 ⟨rfl, hb⟩; refine ⟨_, rfl, ?_⟩; have n1_ := Qan.mk (Qam BR.out hb); have n2_ := Qan.mk (Qam BO.out hb); have n3_ := Qan.mk (Qa0 HB.out hb); clear BR BO HB; have BR := n1_; have BO := n2_; have HB := n3_; clear n1_ n2_ n3_ hb; refine hK.out _ _ ⟨(Qaa BO.out 0).trans rfl, (Qaa BO.out 1).trans rfl, ((HB.out.cell (World.block_lt_of_cell? w _ hw1)).trans hw1), ((HB.out.cell (World.block_lt_of_cell? w _ hw2)).trans hw2)⟩ (fun hHeld => ?_); clear hK K; refine Qbb (a' := ?_) ?_ ?_; rotate_left
   ·
    show Act.put _ (some 36) _ = _; simp only [Act.put, List.setIfInBounds_toArray, List.set_cons_zero, List.set_cons_succ, Qay, Qa3]; rfl
   refine Qe2 (i := 11) (N := none) #[true, true, true, true, true, true, true, true, true, true, true, true] rfl rfl (by kernel_rfl) (by decide) (fun K hK => ?_); have hs17 : wq10.cell? ⟨ob, 0, none⟩ = some (.int .i64 o.1) := (Qaa BO.out 0).trans rfl; have hfs17 := Qad BO.out 0; have hs18 : wq10.cell? ⟨ob, 1, none⟩ = some (.int .i64 o.2) := (Qaa BO.out 1).trans rfl; have hfs18 := Qad BO.out 1; refine Qiv (w1 := ?_) (by rfl) rfl ?_ ?_; rotate_left
   ·
    go_simp; rfl
   refine hK.out _ _ ?_; clear hK K; refine Qbt (by kernel_rfl) ?_; try go_wp2
   go_roundg (l.length - (kk + 1))
   case measure => omega
   case rel =>
    refine ⟨kk + 1, opE Gm.add o (opE Gm.mul y.2 (wt kk)), by omega, by omega, by first | exact congrArg _ hwr | go_num, ⟨Qax (Qax HB.out GO.out) GO.out⟩, ⟨Qg5 (Qg5 BR.out NE.out _) NE.out _⟩, ⟨?_⟩, ⟨HF.out⟩⟩; refine Qau (cs := #[.int .i64 (opE Gm.add o (opE Gm.mul y.2 (wt kk))).1, .int .i64 o.2]) ?_ 1 _ rfl; exact Qau (cs := #[.int .i64 o.1, .int .i64 o.2]) BO.out 0 _ rfl
  ·
   have hltz := eq_false (show ¬ (kk : Int) < (l.length : Int) by omega); have FI' := FI.out; rw [show l.length - kk = 0 by omega, sumFrom] at FI'; have HF := Lib.hid FI'; have r1 : wr.cell? ⟨w.heap.size, 0, none⟩ = some (.int .i64 0) := (Qaa BR.out 0).trans rfl; have r2 : wr.cell? ⟨w.heap.size, 1, none⟩ = some (.int .i64 0) := (Qaa BR.out 1).trans rfl; have r3 := Qad BR.out 0; have r4 := Qad BR.out 1; have o1 : wr.cell? ⟨ob, 0, none⟩ = some (.int .i64 o.1) := (Qaa BO.out 0).trans rfl; have o2 : wr.cell? ⟨ob, 1, none⟩ = some (.int .i64 o.2) := (Qaa BO.out 1).trans rfl; clear FI FI' BR BO; go_wp2; refine bodyPost_ret (v := .tuple #[.agg #[.int .i64 o.1, .int .i64 o.2], .int .i64 0]) ?_ rfl ⟨by rw [HF.out], Qax (Qax HB.out (Nat.le_refl _)) (Nat.le_refl _)⟩; simp [results, Tryz.results50, go_sem, r1, r2]

theorem open_c (A : Option Addr) (c : Nat) (l : List (Int × Gm.E)) (wt : Nat → Gm.E) (w : World) (hr : RowS w A l) (hlen : l.length ≤ 9223372036854775807)
  (hw : ∀ k, k < l.length → ∀ W, Below w.heap.size w W → Calls Tryz.prog 74 #[.slice A l.length c, .int .i64 k] W fun e w' => e = .returned (.agg #[.int .i64 (wt k).1, .int .i64 (wt k).2]) ∧ Below W.heap.size W w') :
  Calls Tryz.prog 50 #[.slice A l.length c] w fun e w' => e = .returned (.tuple #[.agg #[.int .i64 (openE l wt).1.1, .int .i64 (openE l wt).1.2], .int .i64 (openE l wt).2]) ∧ Below w.heap.size w w' := by
 unfold openE
 by_cases h0 : l.length = 0
 ·
  rw [if_pos h0]; exact Qjp A c l w hr hlen (.inl h0)
 ·
  rw [if_neg h0]
  by_cases h1 : apB l = false
  ·
   rw [if_pos h1]; exact Qjp A c l w hr hlen (.inr (.inl h1))
  ·
   rw [if_neg h1]
   by_cases h2 : oddS l = true
   ·
    rw [if_pos h2]; exact Qjp A c l w hr hlen (.inr (.inr h2))
   ·
    rw [if_neg h2]; exact Qo5 A c l wt w hr hlen h0 (by simpa using h1) (by simpa using h2) hw

def invE (x : Gm.E) : Gm.E := if Gm.Ok x then (if x = (0, 0) then (0, 0) else Gm.pow x Gm.NN) else (0, 0)
def wtFrom (l : List (Int × Gm.E)) (own : Int) (k : Nat) : Nat → Nat → Gm.E → Gm.E
 | 0, _, o => o
 | r + 1, i, o => if i = k then wtFrom l own k r (i + 1) o else wtFrom l own k r (i + 1) (opE Gm.mul o (opE Gm.mul ((l.getD i (0, (0, 0))).1, 0) (invE (opE Gm.sub ((l.getD i (0, (0, 0))).1, 0) (own, 0)))))
def wtE (l : List (Int × Gm.E)) (k : Nat) : Gm.E := wtFrom l (l.getD k (0, (0, 0))).1 k l.length 0 (1, 0)
end Go.Proofs.YtopijobdblfhoaaGreat.Fl
end
section
namespace Go.Proofs.YtopijobdblfhoaaGreat.Fl
open Gm

theorem opE_of {f : E → E → E} {x y : E} (hx : Ok x) (hy : Ok y) : opE f x y = f x y := if_pos ⟨hx, hy⟩
theorem Qgz (x : E) : Qfj x.1 x.2 = decide (Ok x) := rfl
theorem oddE_iff (l : List E) : oddE l = false ↔ ∀ c ∈ l, Ok c := by
 unfold oddE; rw [decide_eq_false_iff_not, Qhg]; constructor
 ·
  intro h c hc; obtain ⟨i, hi, rfl⟩ := List.getElem_of_mem hc
  refine Classical.byContradiction fun hn => h ⟨i, hi, ?_⟩
  rw [List.getD_eq_getElem?_getD, List.getElem?_eq_getElem hi]; simp only [Option.getD_some, Qgz, Bool.not_eq_true', decide_eq_false_iff_not]; exact hn
 ·
  rintro h ⟨i, hi, hb⟩; rw [List.getD_eq_getElem?_getD, List.getElem?_eq_getElem hi] at hb; simp only [Option.getD_some, Qgz, Bool.not_eq_true', decide_eq_false_iff_not] at hb; exact hb (h _ (List.getElem_mem hi))
abbrev Row := List (Int × E)
def idAt (l : Row) (i : Nat) : Int := (l.getD i (0, (0, 0))).1
def vAt (l : Row) (i : Nat) : E := (l.getD i (0, (0, 0))).2
def xAt (l : Row) (i : Nat) : E := (idAt l i, 0)
def Apart (l : Row) : Prop := ∀ j, j < l.length → 1 ≤ idAt l j ∧ idAt l j ≤ 64 ∧ ∀ i, i < j → idAt l i ≠ idAt l j
theorem Qdy (l : Row) : ∀ r i, Qdl l r i = true ↔ ∀ j, i ≤ j → j < i + r → 1 ≤ idAt l j ∧ idAt l j ≤ 64 ∧ ∀ m, m < j → idAt l m ≠ idAt l j
 | 0, i => by
  rw [Qdl]; exact ⟨fun _ j h1 h2 => by omega, fun _ => rfl⟩
 | r + 1, i => by
  rw [Qdl]; show (if idAt l i < 1 then false else if idAt l i > 64 then false else if Qfi l i (idAt l i) = true then false else Qdl l r (i + 1)) = true ↔ _
  have hs : Qfi l i (idAt l i) = true ↔ ∃ m, m < i ∧ idAt l m = idAt l i := by
   unfold Qfi; rw [decide_eq_true_eq]; exact Iff.rfl
  constructor
  ·
   intro h j h1 h2; split at h
   ·
    cases h
   ·
    split at h
    ·
     cases h
    ·
     split at h
     ·
      cases h
     ·
      rename_i a b c
      by_cases e : j = i
      ·
       subst e; exact ⟨by omega, by omega, fun m hm he => c (hs.2 ⟨m, hm, he⟩)⟩
      ·
       exact (Qdy l r (i + 1)).1 h j (by omega) (by omega)
  ·
   intro h; obtain ⟨a, b, c⟩ := h i (Nat.le_refl _) (by omega); rw [if_neg (by omega), if_neg (by omega), if_neg (fun h => by obtain ⟨m, h1, h2⟩ := hs.1 h; exact c m h1 h2)]
   exact (Qdy l r (i + 1)).2 fun j h1 h2 => h j (by omega) (by omega)
theorem apB_iff (l : Row) : apB l = true ↔ Apart l := by
 unfold apB Apart; rw [Qdy]; exact ⟨fun h j hj => h j (Nat.zero_le _) (by omega), fun h j _ hj => h j (by omega)⟩
theorem Apart.x_ok {l : Row} (h : Apart l) (i : Nat) (hi : i < l.length) : Ok (xAt l i) := by
 obtain ⟨a, b, _⟩ := h i hi; exact ok_int (by omega) (by omega)
theorem Apart.inj {l : Row} (h : Apart l) (i j : Nat) (hi : i < l.length) (hj : j < l.length) (e : xAt l i = xAt l j) : i = j := by
 have e' : idAt l i = idAt l j := (Prod.mk.inj e).1
 rcases Nat.lt_trichotomy i j with hlt | rfl | hlt
 ·
  exact absurd e' ((h j hj).2.2 i hlt)
 ·
  rfl
 ·
  exact absurd e'.symm ((h i hi).2.2 j hlt)
theorem sub_ne {x y : E} (hx : Ok x) (hy : Ok y) (h : x ≠ y) : sub x y ≠ (0, 0) := fun e => h (Qhr hx hy e)
theorem Qns {x : E} (h : Ok x) (h0 : x ≠ (0, 0)) : invE x = inv x := by
 unfold invE inv; rw [if_pos h, if_neg h0]
theorem Qhm {l : Row} (h : Apart l) {k : Nat} (hk : k < l.length) : ∀ r i, i + r = l.length → wtFrom l (idAt l k) k r i (pr (fac (xAt l) (0, 0) k) i) = pr (fac (xAt l) (0, 0) k) l.length
 | 0, i, hi => by rw [wtFrom, show i = l.length by omega]
 | r + 1, i, hi => by
  rw [wtFrom]; have hs := Qhm h hk r (i + 1) (by omega); rw [pr] at hs
  by_cases e : i = k
  ·
   rw [if_pos e]; rw [show fac (xAt l) (0, 0) k i = (1, 0) from if_pos e, mul_one (pr_ok _ _)] at hs; exact hs
  ·
   rw [if_neg e]; have ok := h.x_ok i (by omega); have okk := h.x_ok k hk
   have ne : xAt l i ≠ xAt l k := fun x => e (h.inj i k (by omega) hk x)
   rw [show fac (xAt l) (0, 0) k i = mul (xAt l i) (inv (sub (xAt l i) (xAt l k))) from by
    unfold fac; rw [if_neg e, sub_zero ok]] at hs
   have e2 : opE sub ((l.getD i (0, (0, 0))).1, 0) (idAt l k, 0) = sub (xAt l i) (xAt l k) := opE_of ok okk; have e3 : opE mul ((l.getD i (0, (0, 0))).1, 0) (inv (sub (xAt l i) (xAt l k))) = mul (xAt l i) (inv (sub (xAt l i) (xAt l k))) := opE_of ok (inv_ok _); rw [e2, Qns (sub_ok _ _) (sub_ne ok okk ne), e3, opE_of (pr_ok _ _) (mul_ok _ _)]; exact hs
theorem wtE_lag {l : Row} (h : Apart l) {k : Nat} (hk : k < l.length) : wtE l k = lag (xAt l) l.length (0, 0) k :=
 Qhm h hk l.length 0 (by omega)
theorem Qkg (l : Row) : oddS l = false ↔ ∀ i, i < l.length → Ok (vAt l i) := by
 unfold oddS; rw [decide_eq_false_iff_not, Qhg]; constructor
 ·
  intro h i hi
  refine Classical.byContradiction fun hn => h ⟨i, hi, ?_⟩
  simp only [Qgz, Bool.not_eq_true', decide_eq_false_iff_not]; exact hn
 ·
  rintro h ⟨i, hi, hb⟩; simp only [Qgz, Bool.not_eq_true', decide_eq_false_iff_not] at hb; exact hb (h i hi)
theorem Qf5 {l : Row} {wt g : Nat → E} (hv : ∀ i, i < l.length → Ok (vAt l i)) (hw : ∀ i, i < l.length → Ok (wt i)) (hg : ∀ i, i < l.length → g i = mul (vAt l i) (wt i)) : ∀ r i, i + r = l.length → sumFrom l wt r i (sm g i) = sm g l.length
 | 0, i, hi => by rw [sumFrom, show i = l.length by omega]
 | r + 1, i, hi => by
  rw [sumFrom]; have hs := Qf5 hv hw hg r (i + 1) (by omega); rw [sm, hg i (by omega)] at hs; have e : opE mul (l.getD i (0, (0, 0))).2 (wt i) = mul (vAt l i) (wt i) := opE_of (hv i (by omega)) (hw i (by omega)); rw [e, opE_of (sm_ok _ _) (mul_ok _ _)]; exact hs
def secret (l : Row) : E := sm (fun k => mul (vAt l k) (lag (xAt l) l.length (0, 0) k)) l.length
theorem lag_ok (X : Nat → E) (n : Nat) (z : E) (k : Nat) : Ok (lag X n z k) := pr_ok _ _
theorem openE_yes {l : Row} (h0 : l.length ≠ 0) (h : Apart l) (hv : ∀ i, i < l.length → Ok (vAt l i)) : openE l (wtE l) = (secret l, 0) := by
 unfold openE; rw [if_neg h0, (apB_iff l).2 h, if_neg (by decide), (Qkg l).2 hv, if_neg (by decide)]; have := Qf5 (wt := wtE l) (g := fun k => mul (vAt l k) (lag (xAt l) l.length (0, 0) k)) hv (fun i hi => by rw [wtE_lag h hi]; exact lag_ok _ _ _ _) (fun i hi => by rw [wtE_lag h hi]) l.length 0 (by omega); rw [show ((0, 0) : E) = sm (fun k => mul (vAt l k) (lag (xAt l) l.length (0, 0) k)) 0 from rfl, this]; rfl
theorem openE_no {l : Row} (h : ¬ (l.length ≠ 0 ∧ Apart l ∧ ∀ i, i < l.length → Ok (vAt l i))) : openE l (wtE l) = ((0, 0), 1) := by
 unfold openE
 by_cases h0 : l.length = 0
 ·
  rw [if_pos h0]
 ·
  rw [if_neg h0]
  cases h1 : apB l with
  | false => rw [if_pos rfl]
  | true =>
   rw [if_neg (by decide)]
   cases h2 : oddS l with
   | true => rw [if_pos rfl]
   | false => exact absurd ⟨h0, (apB_iff l).1 h1, (Qkg l).1 h2⟩ h
theorem nodup_le : ∀ (n : Nat) (l : List Int), l.Nodup → (∀ x ∈ l, 1 ≤ x ∧ x ≤ n) → l.length ≤ n
 | 0, l, _, h => by
  cases l with
  | nil => exact Nat.le_refl _
  | cons a l => have := h a (by simp); omega
 | n + 1, l, hd, h => by
  by_cases hm : ((n + 1 : Nat) : Int) ∈ l
  ·
   have := nodup_le n (l.erase ((n + 1 : Nat) : Int)) (hd.erase _) (fun x hx => by
    have h1 := (List.Nodup.mem_erase_iff hd).1 hx; have h2 := h x h1.2; have h3 := h1.1
    omega)
   rw [List.length_erase_of_mem hm] at this; omega
  ·
   have := nodup_le n l hd (fun x hx => by
    have h2 := h x hx
    have : x ≠ ((n + 1 : Nat) : Int) := fun e => hm (e ▸ hx)
    omega)
   omega
end Go.Proofs.YtopijobdblfhoaaGreat.Fl
end
section
namespace Go.Proofs.YtopijobdblfhoaaGreat.Fl
open Gm

def Ev {α : Type} (f : Nat → Option α) (v : α) : Prop := ∃ k0, ∀ k, k0 ≤ k → f k = some v
theorem Ev.step {α : Type} {f g : Nat → Option α} {v : α} (hg : Ev g v) (h : ∀ k, f (k + 1) = g k) : Ev f v := by
 obtain ⟨k0, h0⟩ := hg; refine ⟨k0 + 1, fun k hk => ?_⟩; obtain ⟨k', rfl⟩ : ∃ k', k = k' + 1 := ⟨k - 1, by omega⟩; rw [h]; exact h0 k' (by omega)
theorem Ev.bind {α β : Type} {f : Nat → Option α} {g : Nat → α → Option β} {v : α} {u : β} (hf : Ev f v) (hg : Ev (fun k => g k v) u) : Ev (fun k => (f k).bind (g k)) u := by
 obtain ⟨k0, h0⟩ := hf; obtain ⟨k1, h1⟩ := hg; refine ⟨max k0 k1, fun k hk => ?_⟩; show (f k).bind (g k) = some u; rw [h0 k (by omega), Option.bind_some]; exact h1 k (by omega)
def Good (l : List Int) : Prop := l.Nodup ∧ ∀ x ∈ l, 1 ≤ x ∧ x ≤ 64
end Go.Proofs.YtopijobdblfhoaaGreat.Fl
end
section
namespace Go.Proofs.YtopijobdblfhoaaGreat.Fl
open Gm

end Go.Proofs.YtopijobdblfhoaaGreat.Fl
end
