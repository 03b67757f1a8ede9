import Derived.Test.YtcbfnmabckjijaaVOrderTurnsSl
/- Trimmed by a program. By an AI agent. -/
namespace Go.Proofs.Ytcbfnmabckjijaa.Si
open Go.RowKit Go.Lib Go.Proofs.YtcbfnmabckjijaaW.PrintWords Go.Proofs.YtcbfnmabckjijaaW.PrintLast Go.Proofs.YtcbfnmabckjijaaW.PrintMore
set_option linter.unusedVariables false
set_option linter.unusedSimpArgs false
def ixL {α : Type} (p : α → Bool) : List α → Nat → Int
 | [], _ => -1
 | x :: r, i => if p x then (i : Int) else ixL p r (i + 1)
abbrev MR := Int × Int × Option Addr × Nat × Nat

def Rowint (W : World) (A : Option Addr) (l : List Int) : Prop := ∀ (i : Nat) (x : Int), l[i]? = some x → ∃ ad, A = some ad ∧ W.cell? (ad.add i) = some (.int .i64 x)
set_option maxHeartbeats 4000000 in
set_option maxRecDepth 100000 in
theorem index_int (A : Option Addr) (c : Nat) (l : List Int) (g : Nat) (pv : Value) (p : Int → Bool) (w : World) (hr : Rowint w A l) (hlen : l.length ≤ 9223372036854775807)
  (eg : ∀ args w, (callFunc g args).run Try.prog w = .ok (.enter g args) w)
  (hp : ∀ (W : World) (x : Int), x ∈ l → Below w.heap.size w W → Calls Try.prog g #[.int .i64 x, pv] W fun e w' => e = .returned (.bool (p x)) ∧ Below W.heap.size W w') :
  Calls Try.prog 41 #[.slice A l.length c, .func (.func g) #[] #[pv]] w fun e w' => e = .returned (.int .i64 (ixL p l 0)) ∧ Below w.heap.size w w' := by
 have HR0 := Lib.hid hr
 have HL := Lib.hid hlen
 have HP := Lib.hid hp
 clear hr hlen hp
 go_enter Try.func41, Try.ntmps41
 go_wp2
 go_loopg [5, 8] l.length (fun gg _ s8 wr => ∃ kk : Nat, kk ≤ l.length ∧ l.length - kk ≤ gg ∧ s8 = .int .i64 kk ∧ Aside0 (Below w.heap.size w wr) ∧ Aside0 (ixL p (l.drop kk) kk = ixL p l 0))
 case atStart => exact ⟨0, Nat.zero_le _, by omega, rfl, ⟨Below.refl _ w⟩, ⟨by rw [List.drop_zero]⟩⟩
 case round =>
  obtain ⟨kk, hkk, hg, rfl, BW, FI⟩ := hrel
  by_cases hlt : kk < l.length
  ·
   have hltz : (kk : Int) < (l.length : Int) := by omega
   have p147 := eq_true (show 0 ≤ (kk : Int) by omega)
   have q147 := eq_true hltz
   have FI' := FI.out
   rw [List.drop_eq_getElem_cons hlt, ixL] at FI'
   have hgy : l[kk]? = some l[kk] := List.getElem?_eq_getElem hlt
   generalize l[kk] = y at FI' hgy
   obtain ⟨ad147, e147, hx147_0⟩ := HR0.out kk y hgy
   cases e147
   replace hx147_0 := (BW.out.cell (World.block_lt_of_cell? w _ hx147_0)).trans hx147_0
   have hcall := HP.out wr y (List.mem_of_getElem? hgy) BW.out
   have tn : ((kk : Int)).toNat = kk := Int.toNat_natCast kk
   cases hq : p y with
   | true =>
    rw [hq] at hcall
    rw [if_pos (hq)] at FI'
    have HF := Lib.hid FI'
    clear hgy FI FI'
    go_wp2_with fail
    refine hcall.mono ?_
    rintro e w' ⟨rfl, hb'⟩
    go_wp2
    go_ret
    exact ⟨congrArg (fun z => Ending.returned (Value.int .i64 z)) HF.out, BW.out.trans (hb'.mono BW.out.size)⟩
   | false =>
    rw [hq] at hcall
    rw [if_neg (by rw [hq]; decide)] at FI'
    have HF := Lib.hid FI'
    clear hgy FI FI'
    have hw : wrap64 ((kk : Int) + 1) = ((kk + 1 : Nat) : Int) := by have := HL.out; rw [Go.IntWalk.wrap64_in _ (by omega)]; omega
    go_wp2_with fail
    refine hcall.mono ?_
    rintro e w' ⟨rfl, hb'⟩
    go_wp2
    go_roundg (l.length - (kk + 1))
    case measure => omega
    case rel => exact ⟨kk + 1, by omega, by omega, by first | exact congrArg _ hw | go_num, ⟨BW.out.trans (hb'.mono BW.out.size)⟩, ⟨HF.out⟩⟩
  ·
   have hltz : ¬ (kk : Int) < (l.length : Int) := by omega
   have e : l.drop kk = [] := List.drop_eq_nil_of_le (by omega)
   have FI' := FI.out
   rw [e, ixL] at FI'
   have HF := Lib.hid FI'
   clear FI FI' e
   go_wp2
   go_ret
   exact ⟨congrArg (fun z => Ending.returned (Value.int .i64 z)) HF.out, BW.out⟩

set_option maxHeartbeats 4000000 in
set_option maxRecDepth 100000 in
theorem find_int (A : Option Addr) (c : Nat) (l : List Int) (v : Int) (w : World) (hr : Rowint w A l) (hlen : l.length ≤ 9223372036854775807) :
  Calls Try.prog 78 #[.slice A l.length c, .int .i64 v] w fun e w' => e = .returned (.int .i64 (ixL (fun x : Int => v == x) l 0)) ∧ w' = w := by
 have HR0 := Lib.hid hr
 have HL := Lib.hid hlen
 clear hr hlen
 go_enter Try.func78, Try.ntmps78
 go_wp2
 go_loopg [5, 8] l.length (fun gg _ s8 wr => ∃ kk : Nat, kk ≤ l.length ∧ l.length - kk ≤ gg ∧ s8 = .int .i64 kk ∧ wr = w ∧ Aside0 (ixL (fun x : Int => v == x) (l.drop kk) kk = ixL (fun x : Int => v == x) l 0))
 case atStart => exact ⟨0, Nat.zero_le _, by omega, rfl, rfl, ⟨by rw [List.drop_zero]⟩⟩
 case round =>
  obtain ⟨kk, hkk, hg, rfl, rfl, FI⟩ := hrel
  by_cases hlt : kk < l.length
  ·
   have hltz : (kk : Int) < (l.length : Int) := by omega
   have p147 := eq_true (show 0 ≤ (kk : Int) by omega)
   have q147 := eq_true hltz
   have FI' := FI.out
   rw [List.drop_eq_getElem_cons hlt, ixL] at FI'
   have hgy : l[kk]? = some l[kk] := List.getElem?_eq_getElem hlt
   generalize l[kk] = y at FI' hgy
   obtain ⟨ad147, e147, hx147_0⟩ := HR0.out kk y hgy
   cases e147
   have tn : ((kk : Int)).toNat = kk := Int.toNat_natCast kk
   cases hq : (v == y) with
   | true =>
    rw [if_pos (hq)] at FI'
    have HF := Lib.hid FI'
    clear hgy FI FI'
    go_wp2
    go_ret
    exact ⟨congrArg (fun z => Ending.returned (Value.int .i64 z)) HF.out, rfl⟩
   | false =>
    rw [if_neg (by rw [hq]; decide)] at FI'
    have HF := Lib.hid FI'
    clear hgy FI FI'
    have hw : wrap64 ((kk : Int) + 1) = ((kk + 1 : Nat) : Int) := by have := HL.out; rw [Go.IntWalk.wrap64_in _ (by omega)]; omega
    go_wp2
    go_roundg (l.length - (kk + 1))
    case measure => omega
    case rel => exact ⟨kk + 1, by omega, by omega, by first | exact congrArg _ hw | go_num, rfl, ⟨HF.out⟩⟩
  ·
   have hltz : ¬ (kk : Int) < (l.length : Int) := by omega
   have e : l.drop kk = [] := List.drop_eq_nil_of_le (by omega)
   have FI' := FI.out
   rw [e, ixL] at FI'
   have HF := Lib.hid FI'
   clear FI FI' e
   go_wp2
   go_ret
   exact ⟨congrArg (fun z => Ending.returned (Value.int .i64 z)) HF.out, rfl⟩
theorem ixL_iff_int (v : Int) : ∀ (l : List Int) (i : Nat), decide (0 ≤ ixL (fun x : Int => v == x) l i) = l.contains v
 | [], i => by simp [ixL]
 | x :: r, i => by
  rw [ixL, List.contains_cons]
  by_cases h : (v == x) = true
  ·
   rw [if_pos h, h, Bool.true_or]; exact decide_eq_true (by omega)
  ·
   rw [if_neg h, ixL_iff_int v r]; simp only [Bool.not_eq_true] at h; rw [h, Bool.false_or]
set_option maxHeartbeats 4000000 in
theorem contains_int (A : Option Addr) (c : Nat) (l : List Int) (v : Int) (w : World) (hr : Rowint w A l) (hlen : l.length ≤ 9223372036854775807) :
  Calls Try.prog 50 #[.slice A l.length c, .int .i64 v] w fun e w' => e = .returned (.bool (l.contains v)) ∧ w' = w := by
 have HC := Lib.hid (find_int A c l v w hr hlen)
 have HX := Lib.hid (ixL_iff_int v l 0)
 clear hr hlen
 go_enter Try.func50, Try.ntmps50
 go_wp2_with fail
 refine HC.out.mono ?_
 rintro e w' ⟨rfl, rfl⟩
 go_wp2
 go_ret
 exact ⟨by rw [← HX.out]; rfl, rfl⟩

def Rowmark (W : World) (A : Option Addr) (l : List MR) : Prop := ∀ (i : Nat) (x : MR), l[i]? = some x → ∃ ad, A = some ad ∧ W.cell? (ad.add (i * 3)) = some (.int .i64 x.1) ∧ W.cell? ⟨(ad.add (i * 3)).block, (ad.add (i * 3)).off + 1, none⟩ = some (.int .i64 x.2.1) ∧ W.cell? ⟨(ad.add (i * 3)).block, (ad.add (i * 3)).off + 2, none⟩ = some (.slice x.2.2.1 x.2.2.2.1 x.2.2.2.2)
set_option maxHeartbeats 4000000 in
set_option maxRecDepth 100000 in
theorem index_mark (A : Option Addr) (c : Nat) (l : List MR) (g : Nat) (pv : Value) (p : MR → Bool) (w : World) (hr : Rowmark w A l) (hlen : l.length ≤ 9223372036854775807)
  (eg : ∀ args w, (callFunc g args).run Try.prog w = .ok (.enter g args) w)
  (hp : ∀ (W : World) (x : MR), x ∈ l → Below w.heap.size w W → Calls Try.prog g #[.agg #[.int .i64 x.1, .int .i64 x.2.1, .slice x.2.2.1 x.2.2.2.1 x.2.2.2.2], pv] W fun e w' => e = .returned (.bool (p x)) ∧ Below W.heap.size W w') :
  Calls Try.prog 46 #[.slice A l.length c, .func (.func g) #[] #[pv]] w fun e w' => e = .returned (.int .i64 (ixL p l 0)) ∧ Below w.heap.size w w' := by
 have HR0 := Lib.hid hr
 have HL := Lib.hid hlen
 have HP := Lib.hid hp
 clear hr hlen hp
 go_enter Try.func46, Try.ntmps46
 go_wp2
 go_loopg [5, 8] l.length (fun gg _ s8 wr => ∃ kk : Nat, kk ≤ l.length ∧ l.length - kk ≤ gg ∧ s8 = .int .i64 kk ∧ Aside0 (Below w.heap.size w wr) ∧ Aside0 (ixL p (l.drop kk) kk = ixL p l 0))
 case atStart => exact ⟨0, Nat.zero_le _, by omega, rfl, ⟨Below.refl _ w⟩, ⟨by rw [List.drop_zero]⟩⟩
 case round =>
  obtain ⟨kk, hkk, hg, rfl, BW, FI⟩ := hrel
  by_cases hlt : kk < l.length
  ·
   have hltz : (kk : Int) < (l.length : Int) := by omega
   have p147 := eq_true (show 0 ≤ (kk : Int) by omega)
   have q147 := eq_true hltz
   have FI' := FI.out
   rw [List.drop_eq_getElem_cons hlt, ixL] at FI'
   have hgy : l[kk]? = some l[kk] := List.getElem?_eq_getElem hlt
   generalize l[kk] = y at FI' hgy
   obtain ⟨ad147, e147, hx147_0, hx147_1, hx147_2⟩ := HR0.out kk y hgy
   cases e147
   replace hx147_0 := (BW.out.cell (World.block_lt_of_cell? w _ hx147_0)).trans hx147_0
   replace hx147_1 := (BW.out.cell (World.block_lt_of_cell? w _ hx147_1)).trans hx147_1
   replace hx147_2 := (BW.out.cell (World.block_lt_of_cell? w _ hx147_2)).trans hx147_2
   have hcall := HP.out wr y (List.mem_of_getElem? hgy) BW.out
   have tn : ((kk : Int)).toNat = kk := Int.toNat_natCast kk
   cases hq : p y with
   | true =>
    rw [hq] at hcall
    rw [if_pos (hq)] at FI'
    have HF := Lib.hid FI'
    clear hgy FI FI'
    go_wp2_with fail
    refine hcall.mono ?_
    rintro e w' ⟨rfl, hb'⟩
    go_wp2
    go_ret
    exact ⟨congrArg (fun z => Ending.returned (Value.int .i64 z)) HF.out, BW.out.trans (hb'.mono BW.out.size)⟩
   | false =>
    rw [hq] at hcall
    rw [if_neg (by rw [hq]; decide)] at FI'
    have HF := Lib.hid FI'
    clear hgy FI FI'
    have hw : wrap64 ((kk : Int) + 1) = ((kk + 1 : Nat) : Int) := by have := HL.out; rw [Go.IntWalk.wrap64_in _ (by omega)]; omega
    go_wp2_with fail
    refine hcall.mono ?_
    rintro e w' ⟨rfl, hb'⟩
    go_wp2
    go_roundg (l.length - (kk + 1))
    case measure => omega
    case rel => exact ⟨kk + 1, by omega, by omega, by first | exact congrArg _ hw | go_num, ⟨BW.out.trans (hb'.mono BW.out.size)⟩, ⟨HF.out⟩⟩
  ·
   have hltz : ¬ (kk : Int) < (l.length : Int) := by omega
   have e : l.drop kk = [] := List.drop_eq_nil_of_le (by omega)
   have FI' := FI.out
   rw [e, ixL] at FI'
   have HF := Lib.hid FI'
   clear FI FI' e
   go_wp2
   go_ret
   exact ⟨congrArg (fun z => Ending.returned (Value.int .i64 z)) HF.out, BW.out⟩

set_option maxHeartbeats 4000000 in
theorem note1_c (x s : Int) (b : Nat) (w : World) (h : w.cell? ⟨b, 0, none⟩ = some (.int .i64 s)) : Calls Try.prog 42 #[.int .i64 x, .pointer (some ⟨b, 0, none⟩)] w fun e w' => e = .returned (.bool (decide (x > s))) ∧ Below w.heap.size w w' := by
 go_enter Try.func42, Try.ntmps42
 go_wp2
 go_ret
 exact ⟨rfl, Below.refl _ _⟩
set_option maxHeartbeats 4000000 in
theorem note2_c (x : MR) (s : Int) (b : Nat) (w : World) (h : w.cell? ⟨b, 0, none⟩ = some (.int .i64 s)) : Calls Try.prog 47 #[.agg #[.int .i64 x.1, .int .i64 x.2.1, .slice x.2.2.1 x.2.2.2.1 x.2.2.2.2], .pointer (some ⟨b, 0, none⟩)] w fun e w' => e = .returned (.bool (decide (x.1 > s))) ∧ Below w.heap.size w w' := by
 have hlt := World.block_lt_of_cell? w _ h
 have h' : (w.alloc (.cells #[.int .i64 x.1, .int .i64 x.2.1, .slice x.2.2.1 x.2.2.2.1 x.2.2.2.2] 54)).cell? ⟨b, 0, none⟩ = some (.int .i64 s) := (World.cell?_alloc_lt _ _ _ hlt).trans h
 go_enter Try.func47, Try.ntmps47
 go_wp2
 go_ret
 exact ⟨rfl, (Below.refl _ _).alloc (Nat.le_refl _) _⟩
set_option maxHeartbeats 4000000 in
theorem of1_c (x : MR) (s : Int) (b : Nat) (w : World) (h : w.cell? ⟨b, 0, none⟩ = some (.int .i64 s)) : Calls Try.prog 73 #[.agg #[.int .i64 x.1, .int .i64 x.2.1, .slice x.2.2.1 x.2.2.2.1 x.2.2.2.2], .pointer (some ⟨b, 0, none⟩)] w fun e w' => e = .returned (.bool (x.1 == s)) ∧ Below w.heap.size w w' := by
 have hlt := World.block_lt_of_cell? w _ h
 have h' : (w.alloc (.cells #[.int .i64 x.1, .int .i64 x.2.1, .slice x.2.2.1 x.2.2.2.1 x.2.2.2.2] 54)).cell? ⟨b, 0, none⟩ = some (.int .i64 s) := (World.cell?_alloc_lt _ _ _ hlt).trans h
 go_enter Try.func73, Try.ntmps73
 go_wp2
 go_ret
 exact ⟨rfl, (Below.refl _ _).alloc (Nat.le_refl _) _⟩
end Go.Proofs.Ytcbfnmabckjijaa.Si
