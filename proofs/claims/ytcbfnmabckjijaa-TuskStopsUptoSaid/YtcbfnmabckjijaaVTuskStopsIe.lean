import Derived.Test.YtcbfnmabckjijaaVTuskStopsNo
import Derived.Laws.Cover1
/- Trimmed by a program. By an AI agent. -/
namespace Go.Proofs.Ytcbfnmabckjijaa.Si
open Go.RowKit Go.Lib Go.Proofs.YtcbfnmabckjijaaW.PrintWords Go.Proofs.YtcbfnmabckjijaaW.PrintLast Go.Proofs.YtcbfnmabckjijaaW.PrintMore
set_option linter.unusedVariables false
set_option linter.unusedSimpArgs false
structure ER where
 d : ByteArray
 au : Int
 ro : Int
 A3 : Option Addr
 n3 : Nat
 c3 : Nat
 A4 : Option Addr
 n4 : Nat
 c4 : Nat
 ea : Int
 eb : Int
abbrev ER.cs (x : ER) : List Value := [.string x.d, .int .i64 x.au, .int .i64 x.ro, .slice x.A3 x.n3 x.c3, .slice x.A4 x.n4 x.c4, .int .i64 x.ea, .int .i64 x.eb]

def Rowentry (W : World) (A : Option Addr) (l : List ER) : Prop := ∀ (i : Nat) (x : ER), l[i]? = some x → ∃ ad, A = some ad ∧ W.cell? (ad.add (i * 7)) = some (.string x.d) ∧ W.cell? ⟨(ad.add (i * 7)).block, (ad.add (i * 7)).off + 1, none⟩ = some (.int .i64 x.au) ∧ W.cell? ⟨(ad.add (i * 7)).block, (ad.add (i * 7)).off + 2, none⟩ = some (.int .i64 x.ro) ∧ W.cell? ⟨(ad.add (i * 7)).block, (ad.add (i * 7)).off + 3, none⟩ = some (.slice x.A3 x.n3 x.c3) ∧ W.cell? ⟨(ad.add (i * 7)).block, (ad.add (i * 7)).off + 4, none⟩ = some (.slice x.A4 x.n4 x.c4) ∧ W.cell? ⟨(ad.add (i * 7)).block, (ad.add (i * 7)).off + 5, none⟩ = some (.int .i64 x.ea) ∧ W.cell? ⟨(ad.add (i * 7)).block, (ad.add (i * 7)).off + 6, none⟩ = some (.int .i64 x.eb)
set_option maxHeartbeats 4000000 in
set_option maxRecDepth 100000 in
theorem index_entry (A : Option Addr) (c : Nat) (l : List ER) (g : Nat) (pv : Value) (p : ER → Bool) (w : World) (hr : Rowentry w A l) (hlen : l.length ≤ 9223372036854775807)
  (eg : ∀ args w, (callFunc g args).run Try.prog w = .ok (.enter g args) w)
  (hp : ∀ (W : World) (x : ER), x ∈ l → Below w.heap.size w W → Calls Try.prog g #[.agg #[.string x.d, .int .i64 x.au, .int .i64 x.ro, .slice x.A3 x.n3 x.c3, .slice x.A4 x.n4 x.c4, .int .i64 x.ea, .int .i64 x.eb], pv] W fun e w' => e = .returned (.bool (p x)) ∧ Below W.heap.size W w') :
  Calls Try.prog 122 #[.slice A l.length c, .func (.func g) #[] #[pv]] w fun e w' => e = .returned (.int .i64 (ixL p l 0)) ∧ Below w.heap.size w w' := by
 have HR0 := Lib.hid hr
 have HL := Lib.hid hlen
 have HP := Lib.hid hp
 clear hr hlen hp
 go_enter Try.func122, Try.ntmps122
 go_wp2
 go_loopg [5, 8] l.length (fun gg _ s8 wr => ∃ kk : Nat, kk ≤ l.length ∧ l.length - kk ≤ gg ∧ s8 = .int .i64 kk ∧ Aside0 (Below w.heap.size w wr) ∧ Aside0 (ixL p (l.drop kk) kk = ixL p l 0))
 case atStart => exact ⟨0, Nat.zero_le _, by omega, rfl, ⟨Below.refl _ w⟩, ⟨by rw [List.drop_zero]⟩⟩
 case round =>
  obtain ⟨kk, hkk, hg, rfl, BW, FI⟩ := hrel
  by_cases hlt : kk < l.length
  ·
   have hltz : (kk : Int) < (l.length : Int) := by omega
   have p147 := eq_true (show 0 ≤ (kk : Int) by omega)
   have q147 := eq_true hltz
   have FI' := FI.out
   rw [List.drop_eq_getElem_cons hlt, ixL] at FI'
   have hgy : l[kk]? = some l[kk] := List.getElem?_eq_getElem hlt
   generalize l[kk] = y at FI' hgy
   obtain ⟨ad147, e147, hx147_0, hx147_1, hx147_2, hx147_3, hx147_4, hx147_5, hx147_6⟩ := HR0.out kk y hgy
   cases e147
   replace hx147_0 := (BW.out.cell (World.block_lt_of_cell? w _ hx147_0)).trans hx147_0
   replace hx147_1 := (BW.out.cell (World.block_lt_of_cell? w _ hx147_1)).trans hx147_1
   replace hx147_2 := (BW.out.cell (World.block_lt_of_cell? w _ hx147_2)).trans hx147_2
   replace hx147_3 := (BW.out.cell (World.block_lt_of_cell? w _ hx147_3)).trans hx147_3
   replace hx147_4 := (BW.out.cell (World.block_lt_of_cell? w _ hx147_4)).trans hx147_4
   replace hx147_5 := (BW.out.cell (World.block_lt_of_cell? w _ hx147_5)).trans hx147_5
   replace hx147_6 := (BW.out.cell (World.block_lt_of_cell? w _ hx147_6)).trans hx147_6
   have hcall := HP.out wr y (List.mem_of_getElem? hgy) BW.out
   have tn : ((kk : Int)).toNat = kk := Int.toNat_natCast kk
   cases hq : p y with
   | true =>
    rw [hq] at hcall
    rw [if_pos (hq)] at FI'
    have HF := Lib.hid FI'
    clear hgy FI FI'
    go_wp2_with fail
    refine hcall.mono ?_
    rintro e w' ⟨rfl, hb'⟩
    go_wp2
    go_ret
    exact ⟨congrArg (fun z => Ending.returned (Value.int .i64 z)) HF.out, BW.out.trans (hb'.mono BW.out.size)⟩
   | false =>
    rw [hq] at hcall
    rw [if_neg (by rw [hq]; decide)] at FI'
    have HF := Lib.hid FI'
    clear hgy FI FI'
    have hw : wrap64 ((kk : Int) + 1) = ((kk + 1 : Nat) : Int) := by have := HL.out; rw [Go.IntWalk.wrap64_in _ (by omega)]; omega
    go_wp2_with fail
    refine hcall.mono ?_
    rintro e w' ⟨rfl, hb'⟩
    go_wp2
    go_roundg (l.length - (kk + 1))
    case measure => omega
    case rel => exact ⟨kk + 1, by omega, by omega, by first | exact congrArg _ hw | go_num, ⟨BW.out.trans (hb'.mono BW.out.size)⟩, ⟨HF.out⟩⟩
  ·
   have hltz : ¬ (kk : Int) < (l.length : Int) := by omega
   have e : l.drop kk = [] := List.drop_eq_nil_of_le (by omega)
   have FI' := FI.out
   rw [e, ixL] at FI'
   have HF := Lib.hid FI'
   clear FI FI' e
   go_wp2
   go_ret
   exact ⟨congrArg (fun z => Ending.returned (Value.int .i64 z)) HF.out, BW.out⟩
set_option maxHeartbeats 4000000 in
set_option maxRecDepth 100000 in
theorem index_entry2 (A : Option Addr) (c : Nat) (l : List ER) (g : Nat) (pv pv2 : Value) (p : ER → Bool) (w : World) (hr : Rowentry w A l) (hlen : l.length ≤ 9223372036854775807)
  (eg : ∀ args w, (callFunc g args).run Try.prog w = .ok (.enter g args) w)
  (hp : ∀ (W : World) (x : ER), x ∈ l → Below w.heap.size w W → Calls Try.prog g #[.agg #[.string x.d, .int .i64 x.au, .int .i64 x.ro, .slice x.A3 x.n3 x.c3, .slice x.A4 x.n4 x.c4, .int .i64 x.ea, .int .i64 x.eb], pv, pv2] W fun e w' => e = .returned (.bool (p x)) ∧ Below W.heap.size W w') :
  Calls Try.prog 122 #[.slice A l.length c, .func (.func g) #[] #[pv, pv2]] w fun e w' => e = .returned (.int .i64 (ixL p l 0)) ∧ Below w.heap.size w w' := by
 have HR0 := Lib.hid hr
 have HL := Lib.hid hlen
 have HP := Lib.hid hp
 clear hr hlen hp
 go_enter Try.func122, Try.ntmps122
 go_wp2
 go_loopg [5, 8] l.length (fun gg _ s8 wr => ∃ kk : Nat, kk ≤ l.length ∧ l.length - kk ≤ gg ∧ s8 = .int .i64 kk ∧ Aside0 (Below w.heap.size w wr) ∧ Aside0 (ixL p (l.drop kk) kk = ixL p l 0))
 case atStart => exact ⟨0, Nat.zero_le _, by omega, rfl, ⟨Below.refl _ w⟩, ⟨by rw [List.drop_zero]⟩⟩
 case round =>
  obtain ⟨kk, hkk, hg, rfl, BW, FI⟩ := hrel
  by_cases hlt : kk < l.length
  ·
   have hltz : (kk : Int) < (l.length : Int) := by omega
   have p147 := eq_true (show 0 ≤ (kk : Int) by omega)
   have q147 := eq_true hltz
   have FI' := FI.out
   rw [List.drop_eq_getElem_cons hlt, ixL] at FI'
   have hgy : l[kk]? = some l[kk] := List.getElem?_eq_getElem hlt
   generalize l[kk] = y at FI' hgy
   obtain ⟨ad147, e147, hx147_0, hx147_1, hx147_2, hx147_3, hx147_4, hx147_5, hx147_6⟩ := HR0.out kk y hgy
   cases e147
   replace hx147_0 := (BW.out.cell (World.block_lt_of_cell? w _ hx147_0)).trans hx147_0
   replace hx147_1 := (BW.out.cell (World.block_lt_of_cell? w _ hx147_1)).trans hx147_1
   replace hx147_2 := (BW.out.cell (World.block_lt_of_cell? w _ hx147_2)).trans hx147_2
   replace hx147_3 := (BW.out.cell (World.block_lt_of_cell? w _ hx147_3)).trans hx147_3
   replace hx147_4 := (BW.out.cell (World.block_lt_of_cell? w _ hx147_4)).trans hx147_4
   replace hx147_5 := (BW.out.cell (World.block_lt_of_cell? w _ hx147_5)).trans hx147_5
   replace hx147_6 := (BW.out.cell (World.block_lt_of_cell? w _ hx147_6)).trans hx147_6
   have hcall := HP.out wr y (List.mem_of_getElem? hgy) BW.out
   have tn : ((kk : Int)).toNat = kk := Int.toNat_natCast kk
   cases hq : p y with
   | true =>
    rw [hq] at hcall
    rw [if_pos (hq)] at FI'
    have HF := Lib.hid FI'
    clear hgy FI FI'
    go_wp2_with fail
    refine hcall.mono ?_
    rintro e w' ⟨rfl, hb'⟩
    go_wp2
    go_ret
    exact ⟨congrArg (fun z => Ending.returned (Value.int .i64 z)) HF.out, BW.out.trans (hb'.mono BW.out.size)⟩
   | false =>
    rw [hq] at hcall
    rw [if_neg (by rw [hq]; decide)] at FI'
    have HF := Lib.hid FI'
    clear hgy FI FI'
    have hw : wrap64 ((kk : Int) + 1) = ((kk + 1 : Nat) : Int) := by have := HL.out; rw [Go.IntWalk.wrap64_in _ (by omega)]; omega
    go_wp2_with fail
    refine hcall.mono ?_
    rintro e w' ⟨rfl, hb'⟩
    go_wp2
    go_roundg (l.length - (kk + 1))
    case measure => omega
    case rel => exact ⟨kk + 1, by omega, by omega, by first | exact congrArg _ hw | go_num, ⟨BW.out.trans (hb'.mono BW.out.size)⟩, ⟨HF.out⟩⟩
  ·
   have hltz : ¬ (kk : Int) < (l.length : Int) := by omega
   have e : l.drop kk = [] := List.drop_eq_nil_of_le (by omega)
   have FI' := FI.out
   rw [e, ixL] at FI'
   have HF := Lib.hid FI'
   clear FI FI' e
   go_wp2
   go_ret
   exact ⟨congrArg (fun z => Ending.returned (Value.int .i64 z)) HF.out, BW.out⟩

def Rowstr (W : World) (A : Option Addr) (l : List ByteArray) : Prop := ∀ (i : Nat) (x : ByteArray), l[i]? = some x → ∃ ad, A = some ad ∧ W.cell? (ad.add i) = some (.string x)
set_option maxHeartbeats 4000000 in
theorem find1_c (x : ER) (s : ByteArray) (b0 : Nat) (w : World) (h0 : w.cell? ⟨b0, 0, none⟩ = some (.string s)) : Calls Try.prog 96 #[.agg #[.string x.d, .int .i64 x.au, .int .i64 x.ro, .slice x.A3 x.n3 x.c3, .slice x.A4 x.n4 x.c4, .int .i64 x.ea, .int .i64 x.eb], .pointer (some ⟨b0, 0, none⟩)] w fun e w' => e = .returned (.bool (x.d.toList == s.toList)) ∧ Below w.heap.size w w' := by
 have h0_ : (w.alloc (.cells #[.string x.d, .int .i64 x.au, .int .i64 x.ro, .slice x.A3 x.n3 x.c3, .slice x.A4 x.n4 x.c4, .int .i64 x.ea, .int .i64 x.eb] 37)).cell? ⟨b0, 0, none⟩ = some (.string s) := (World.cell?_alloc_lt _ _ _ (World.block_lt_of_cell? w _ h0)).trans h0
 go_enter Try.func96, Try.ntmps96
 go_wp2
 go_ret
 exact ⟨rfl, (Below.refl _ _).alloc (Nat.le_refl _) _⟩

set_option maxHeartbeats 4000000 in
theorem by1_c (x : ER) (a r : Int) (b0 : Nat) (b1 : Nat) (w : World) (h0 : w.cell? ⟨b0, 0, none⟩ = some (.int .i64 a)) (h1 : w.cell? ⟨b1, 0, none⟩ = some (.int .i64 r)) : Calls Try.prog 95 #[.agg #[.string x.d, .int .i64 x.au, .int .i64 x.ro, .slice x.A3 x.n3 x.c3, .slice x.A4 x.n4 x.c4, .int .i64 x.ea, .int .i64 x.eb], .pointer (some ⟨b0, 0, none⟩), .pointer (some ⟨b1, 0, none⟩)] w fun e w' => e = .returned (.bool (x.au == a && x.ro == r)) ∧ Below w.heap.size w w' := by
 have h0_ : (w.alloc (.cells #[.string x.d, .int .i64 x.au, .int .i64 x.ro, .slice x.A3 x.n3 x.c3, .slice x.A4 x.n4 x.c4, .int .i64 x.ea, .int .i64 x.eb] 37)).cell? ⟨b0, 0, none⟩ = some (.int .i64 a) := (World.cell?_alloc_lt _ _ _ (World.block_lt_of_cell? w _ h0)).trans h0
 have h1_ : (w.alloc (.cells #[.string x.d, .int .i64 x.au, .int .i64 x.ro, .slice x.A3 x.n3 x.c3, .slice x.A4 x.n4 x.c4, .int .i64 x.ea, .int .i64 x.eb] 37)).cell? ⟨b1, 0, none⟩ = some (.int .i64 r) := (World.cell?_alloc_lt _ _ _ (World.block_lt_of_cell? w _ h1)).trans h1
 cases hq : (x.au == a) <;> go_enter Try.func95, Try.ntmps95 <;> go_wp2 <;> go_ret <;>   exact ⟨rfl, (Below.refl _ _).alloc (Nat.le_refl _) _⟩
end Go.Proofs.Ytcbfnmabckjijaa.Si
